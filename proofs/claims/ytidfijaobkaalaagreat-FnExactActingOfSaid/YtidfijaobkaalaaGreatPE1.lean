/- The texts of this claim, part PE 1: the engine that runs the code on values, the data, the contracts. No condition. -/
import Derived.Test.YtidfijaobkaalaaGreatPD10
import Derived.Shelf.SlicesE.DeleteFunc
import Derived.Shelf.SlicesE.Compact
import Derived.Ground.SlgfProg
import Derived.Ground.SlgnProg
import Derived.Shelf.SortG.Plain
import Derived.Shelf.SortG.SortNone
import Derived.Sort.OwnSortedInts
import Derived.Lib.Walk
import Derived.Lib.SliceRun
import Derived.Shelf.RegionOpenPlain
namespace Go.Ve
open Go.Proofs Go.RowKit
set_option linter.unusedVariables false
set_option linter.unusedSimpArgs false
set_option maxRecDepth 10000
set_option maxHeartbeats 4000000
theorem ruleO_idx {m : Mp} {id : Int} : (ruleO m id).isSome = decide (0 ≤ idx (fun r : Rule => decide (r.id = id)) m.rules) := by
  rcases idx_spec (fun b : Rule => decide (b.id = id)) m.rules with ⟨h1, hb⟩ | ⟨a, x, b, hl, h2, h3, hb⟩
  · simp [ruleO, hb, h1]
  · simp [ruleO, hb, h3]
def nodeP (t : Tree) (o : Option Int) (x : Int) : Bool := !decide (devI t x < 0) && incP o x
theorem nodes_chk {t : Tree} : ∀ (l : List Int) (o : Option Int), chk (nodeP t) o l = (chk incP o l && !l.any fun id => decide (devI t id < 0))
  | [], o => rfl
  | x :: l, o => by
    simp only [chk, nodeP, nodes_chk l (some x), List.any_cons, Bool.not_or]
    ac_rfl
def c121 : SCode := (.seq (.reg [⟨(some 2), .box 65 (.tmp 0), none⟩,
   ⟨(some 4), .assign (.const (.int .i64 0)), none⟩])
(.seq (.seq (.reg [⟨(some 5), .assign (.const (.int .i64 0)), none⟩])
  (.block 0 (.loop (.seq (.seq (.reg [⟨(some 6), .move (.tmp 5), none⟩,
         ⟨(some 7), .fieldAddr 65 (.tmp 2) 3, none⟩,
         ⟨(some 8), .load 62 (.tmp 7), none⟩,
         ⟨(some 9), .call ⟨(.builtin .len), #[(.tmp 8)], #[62]⟩, none⟩,
         ⟨(some 10), .binOp .lss 3 (.tmp 6) (.tmp 9) 3, none⟩])
      (.cond (.tmp 10) .skip
       (.exit 0)))
     (.seq (.block 1 (.seq (.reg [⟨(some 13), .fieldAddr 65 (.tmp 2) 3, none⟩,
           ⟨(some 14), .load 62 (.tmp 13), none⟩,
           ⟨(some 15), .move (.tmp 5), none⟩,
           ⟨(some 16), .indexAddr 62 (.tmp 14) (.tmp 15), none⟩,
           ⟨(some 17), .fieldAddr 41 (.tmp 16) 0, none⟩,
           ⟨(some 18), .load 2 (.tmp 17), none⟩,
           ⟨(some 19), .move (.tmp 1), none⟩,
           ⟨(some 20), .binOp .eql 2 (.tmp 18) (.tmp 19) 2, none⟩])
        (.cond (.tmp 20) (.seq (.reg [⟨(some 21), .move (.tmp 5), none⟩,
             ⟨(some 4), .assign (.tmp 21), none⟩])
          .ret)
         .skip)))
      (.reg [⟨(some 11), .move (.tmp 5), none⟩,
         ⟨(some 12), .binOp .add 3 (.tmp 11) (.const (.int .i64 1)) 3, none⟩,
         ⟨(some 5), .assign (.tmp 12), none⟩]))))))
 (.seq (.reg [⟨(some 4), .assign (.const (.int .i64 (-1))), none⟩])
  .ret)))
theorem s121 : slimF Tryz.f121 = some (c121, [.t 4], 22) := by kernel_rfl
theorem o121 : okF [] Tryz.f121 = true := by kernel_rfl
noncomputable def g121 : Fsem := sem2 enMp (En.int .i64) (fun m id => True) (fun n m id => .int .i64 (idx (fun d : Rule => decide (d.id = id)) m.rules))
@[go_sem] theorem g121_eq {n τ : Nat} {m : Mp} {id : Int} : g121 n [.agg [.int .i64 m.epoch, .int .i64 m.term, .sl τ 2 (m.tree.devices.map (enDev.av τ)), .sl τ 3 (m.tree.buckets.map (enBkt.av τ)), .sl τ 4 (m.rules.map (enRule.av τ)), .sl τ 6 (m.pools.map (enPool.av τ)), .sl τ 1 (m.up.map (AV.int .i64)), .sl τ 1 (m.out.map (AV.int .i64))], .int .i64 id] = ⟨True, .int .i64 (idx (fun d : Rule => decide (d.id = id)) m.rules)⟩ := sem2_eq (τ' := 0) (E := enMp) (F := (En.int .i64))
theorem p121 : Pure Tryz.prog 121 g121 := by
  refine sem2_pure fun τ τ' m id n h2 hpre => ?_
  have hT : Table Tryz.prog [] := .nil
  have hn0 : n ≠ 0 := by omega
  refine SatP.of_body hT hm Tryz.func121 s121 o121 h2 (by simp) ?_
  generalize hr : idx (fun d : Rule => decide (d.id = id)) m.rules = r
  simp (config := {contextual := true, maxSteps := 2000000, implicitDefEqProofs := false}) [c121, go_sem]
  refine VW_listK hT h2 hm m.rules [1, 2] (fun pre post (u0 : Unit) => [(5, .int .i64 pre.length)]) (fun pre post (u0 : Unit) => idxF (fun d : Rule => decide (d.id = id)) post pre.length = r) () ?_ ?_ ?_ ?_
  · exact hr
  · simp [SubI, go_sem]
  · rintro u0 hR
    simp (config := {contextual := true, maxSteps := 2000000, implicitDefEqProofs := false}) [go_sem]
    simp [idxF] at hR; grind
  · rintro pre x post u0 hl hlen hR
    have hw : pre.length + (post.length + 1) ≤ maxLen → IntKind.i64.wrap ((pre.length : Int) + 1) = (pre.length : Int) + 1 := fun h => wrap_next h (by omega)
    have h3 : (0 : Int) ≤ pre.length := by omega
    have h4 : (pre.length : Int) < (pre.length : Int) + ((post.length : Int) + 1) := by omega
    have h5 : ¬ (pre.length : Int) + ((post.length : Int) + 1) ≤ (pre.length : Int) := by omega
    simp only [idxF] at hR
    by_cases hp : x.id = id
    · simp [hp] at hR
      simp (config := {contextual := true, maxSteps := 2000000, implicitDefEqProofs := false}) [go_sem, hw, h3, h4, h5, ← hl, SubI, hp] <;> grind
    · simp [hp] at hR
      simp (config := {contextual := true, maxSteps := 2000000, implicitDefEqProofs := false}) [go_sem, hw, h3, h4, h5, ← hl, SubI, hp] <;> grind
def c123 : SCode := (.seq (.reg [⟨(some 2), .box 65 (.tmp 0), none⟩,
   ⟨(some 4), .assign (.const (.int .i64 0)), none⟩])
(.seq (.seq (.reg [⟨(some 5), .assign (.const (.int .i64 0)), none⟩])
  (.block 0 (.loop (.seq (.seq (.reg [⟨(some 6), .move (.tmp 5), none⟩,
         ⟨(some 7), .fieldAddr 65 (.tmp 2) 4, none⟩,
         ⟨(some 8), .load 63 (.tmp 7), none⟩,
         ⟨(some 9), .call ⟨(.builtin .len), #[(.tmp 8)], #[63]⟩, none⟩,
         ⟨(some 10), .binOp .lss 3 (.tmp 6) (.tmp 9) 3, none⟩])
      (.cond (.tmp 10) .skip
       (.exit 0)))
     (.seq (.block 1 (.seq (.reg [⟨(some 13), .fieldAddr 65 (.tmp 2) 4, none⟩,
           ⟨(some 14), .load 63 (.tmp 13), none⟩,
           ⟨(some 15), .move (.tmp 5), none⟩,
           ⟨(some 16), .indexAddr 63 (.tmp 14) (.tmp 15), none⟩,
           ⟨(some 17), .fieldAddr 152 (.tmp 16) 0, none⟩,
           ⟨(some 18), .load 2 (.tmp 17), none⟩,
           ⟨(some 19), .move (.tmp 1), none⟩,
           ⟨(some 20), .binOp .eql 2 (.tmp 18) (.tmp 19) 2, none⟩])
        (.cond (.tmp 20) (.seq (.reg [⟨(some 21), .move (.tmp 5), none⟩,
             ⟨(some 4), .assign (.tmp 21), none⟩])
          .ret)
         .skip)))
      (.reg [⟨(some 11), .move (.tmp 5), none⟩,
         ⟨(some 12), .binOp .add 3 (.tmp 11) (.const (.int .i64 1)) 3, none⟩,
         ⟨(some 5), .assign (.tmp 12), none⟩]))))))
 (.seq (.reg [⟨(some 4), .assign (.const (.int .i64 (-1))), none⟩])
  .ret)))
theorem s123 : slimF Tryz.f123 = some (c123, [.t 4], 22) := by kernel_rfl
theorem o123 : okF [] Tryz.f123 = true := by kernel_rfl
noncomputable def g123 : Fsem := sem2 enMp (En.int .i64) (fun m id => True) (fun n m id => .int .i64 (idx (fun d : Pool => decide (d.id = id)) m.pools))
@[go_sem] theorem g123_eq {n τ : Nat} {m : Mp} {id : Int} : g123 n [.agg [.int .i64 m.epoch, .int .i64 m.term, .sl τ 2 (m.tree.devices.map (enDev.av τ)), .sl τ 3 (m.tree.buckets.map (enBkt.av τ)), .sl τ 4 (m.rules.map (enRule.av τ)), .sl τ 6 (m.pools.map (enPool.av τ)), .sl τ 1 (m.up.map (AV.int .i64)), .sl τ 1 (m.out.map (AV.int .i64))], .int .i64 id] = ⟨True, .int .i64 (idx (fun d : Pool => decide (d.id = id)) m.pools)⟩ := sem2_eq (τ' := 0) (E := enMp) (F := (En.int .i64))
theorem p123 : Pure Tryz.prog 123 g123 := by
  refine sem2_pure fun τ τ' m id n h2 hpre => ?_
  have hT : Table Tryz.prog [] := .nil
  have hn0 : n ≠ 0 := by omega
  refine SatP.of_body hT hm Tryz.func123 s123 o123 h2 (by simp) ?_
  generalize hr : idx (fun d : Pool => decide (d.id = id)) m.pools = r
  simp (config := {contextual := true, maxSteps := 2000000, implicitDefEqProofs := false}) [c123, go_sem]
  refine VW_listK hT h2 hm m.pools [1, 2] (fun pre post (u0 : Unit) => [(5, .int .i64 pre.length)]) (fun pre post (u0 : Unit) => idxF (fun d : Pool => decide (d.id = id)) post pre.length = r) () ?_ ?_ ?_ ?_
  · exact hr
  · simp [SubI, go_sem]
  · rintro u0 hR
    simp (config := {contextual := true, maxSteps := 2000000, implicitDefEqProofs := false}) [go_sem]
    simp [idxF] at hR; grind
  · rintro pre x post u0 hl hlen hR
    have hw : pre.length + (post.length + 1) ≤ maxLen → IntKind.i64.wrap ((pre.length : Int) + 1) = (pre.length : Int) + 1 := fun h => wrap_next h (by omega)
    have h3 : (0 : Int) ≤ pre.length := by omega
    have h4 : (pre.length : Int) < (pre.length : Int) + ((post.length : Int) + 1) := by omega
    have h5 : ¬ (pre.length : Int) + ((post.length : Int) + 1) ≤ (pre.length : Int) := by omega
    simp only [idxF] at hR
    by_cases hp : x.id = id
    · simp [hp] at hR
      simp (config := {contextual := true, maxSteps := 2000000, implicitDefEqProofs := false}) [go_sem, hw, h3, h4, h5, ← hl, SubI, hp] <;> grind
    · simp [hp] at hR
      simp (config := {contextual := true, maxSteps := 2000000, implicitDefEqProofs := false}) [go_sem, hw, h3, h4, h5, ← hl, SubI, hp] <;> grind
def c128 : SCode := (.seq (.reg [⟨(some 1), .box 65 (.tmp 0), none⟩,
   ⟨(some 2), .assign (.const (.bool false)), none⟩])
(.seq (.seq (.reg [⟨(some 5), .fieldAddr 65 (.tmp 1) 3, none⟩,
     ⟨(some 6), .load 62 (.tmp 5), none⟩,
     ⟨(some 7), .call ⟨(.builtin .len), #[(.tmp 6)], #[62]⟩, none⟩,
     ⟨(some 8), .move (.const (.int .i64 0)), none⟩])
  (.block 0 (.loop (.seq (.reg [⟨(some 9), .binOp .lss 3 (.tmp 8) (.tmp 7) 3, none⟩])
     (.seq (.cond (.tmp 9) .skip
       (.exit 0))
      (.seq (.block 1 (.seq (.reg [⟨(some 10), .move (.tmp 8), none⟩,
            ⟨(some 11), .indexAddr 62 (.tmp 6) (.tmp 8), none⟩,
            ⟨(some 12), .load 41 (.tmp 11), none⟩,
            ⟨(some 4), .alloc 41, none⟩,
            ⟨(some 3), .assign (.tmp 10), none⟩,
            ⟨none, .store 41 (.tmp 4) (.tmp 12), none⟩])
         (.seq (.draw [⟨(some 13), .fieldAddr 65 (.tmp 1) 2, none⟩,
             ⟨(some 14), .load 39 (.tmp 13), none⟩,
             ⟨(some 15), .load 41 (.tmp 4), none⟩,
             ⟨(some 16), .call ⟨(.value (.func 106)), #[(.tmp 14), (.tmp 15)], #[39, 41]⟩, none⟩,
             ⟨(some 17), .unOp .not 4 (.tmp 16), none⟩,
             ⟨(some 18), .move (.tmp 17), none⟩,
             ⟨(some 19), .move (.tmp 3), (some (18, false))⟩,
             ⟨(some 20), .binOp .gtr 3 (.tmp 19) (.const (.int .i64 0)) 3, (some (18, false))⟩,
             ⟨(some 21), .move (.tmp 20), (some (18, false))⟩,
             ⟨(some 22), .fieldAddr 41 (.tmp 4) 0, (some (21, true))⟩,
             ⟨(some 23), .load 2 (.tmp 22), (some (21, true))⟩,
             ⟨(some 24), .fieldAddr 65 (.tmp 1) 3, (some (21, true))⟩,
             ⟨(some 25), .load 62 (.tmp 24), (some (21, true))⟩,
             ⟨(some 26), .move (.tmp 3), (some (21, true))⟩,
             ⟨(some 27), .binOp .sub 3 (.tmp 26) (.const (.int .i64 1)) 3, (some (21, true))⟩,
             ⟨(some 28), .indexAddr 62 (.tmp 25) (.tmp 27), (some (21, true))⟩,
             ⟨(some 29), .fieldAddr 41 (.tmp 28) 0, (some (21, true))⟩,
             ⟨(some 30), .load 2 (.tmp 29), (some (21, true))⟩,
             ⟨(some 31), .binOp .leq 2 (.tmp 23) (.tmp 30) 2, (some (21, true))⟩,
             ⟨(some 32), .pick (.tmp 21) (.tmp 31) (.const (.bool false)), (some (18, false))⟩,
             ⟨(some 33), .pick (.tmp 18) (.const (.bool true)) (.tmp 32), none⟩] [[], [0], [], [0, 1, 2], [0, 1, 2, 3], [0, 1, 2, 3, 4], [0, 1, 2, 3, 4, 5], [0, 1, 2, 3, 4, 5, 6], [0, 1, 2, 3, 4, 5, 6, 7], [0, 1, 2, 3, 4, 5, 6, 7, 8], [0, 1, 2, 3, 4, 5, 6, 7, 8, 9], [0, 1, 2, 3, 4, 5, 6, 7, 8], [0, 1, 2, 3, 4, 5, 6, 7, 8, 11], [0, 1, 2, 3, 4, 5, 6, 7, 8], [0, 1, 2, 3, 4, 5, 6, 7, 8, 13], [0, 1, 2, 3, 4, 5, 6, 7, 8, 11, 12, 13, 14], [0, 1, 2, 3, 4, 5, 6, 7, 8, 11, 12, 13, 14, 15], [0, 1, 2, 3, 4, 5, 6, 7, 8, 11, 12, 13, 14, 15, 16], [0, 1, 2, 3, 4, 5, 6, 7, 8, 9, 10, 11, 12, 13, 14, 15, 16, 17], [0, 1, 2, 3, 4, 5, 6, 7, 8, 9, 10, 11, 12, 13, 14, 15, 16, 17, 18], [0, 1, 2, 3, 4, 5, 6, 7, 8, 9, 10, 11, 12, 13, 14, 15, 16, 17, 18, 19]])
          (.cond (.tmp 33) (.seq (.reg [⟨(some 2), .assign (.const (.bool false)), none⟩])
            .ret)
           .skip))))
       (.reg [⟨(some 34), .binOp .add 3 (.tmp 8) (.const (.int .i64 1)) 3, none⟩,
          ⟨(some 8), .move (.tmp 34), none⟩])))))))
 (.seq (.reg [⟨(some 35), .fieldAddr 65 (.tmp 1) 3, none⟩,
     ⟨(some 36), .load 62 (.tmp 35), none⟩,
     ⟨(some 37), .call ⟨(.builtin .len), #[(.tmp 36)], #[62]⟩, none⟩,
     ⟨(some 38), .binOp .leq 3 (.tmp 37) (.const (.int .i64 4)) 3, none⟩,
     ⟨(some 2), .assign (.tmp 38), none⟩])
  .ret)))
theorem s128 : slimF Tryz.f128 = some (c128, [.t 2], 39) := by kernel_rfl
theorem o128 : okF [(106, g106)] Tryz.f128 = true := by kernel_rfl
noncomputable def g128 : Fsem := semT1 enMp (fun τ m => τ ≠ 0) (fun n τ m => .bool (rulesOk m))
@[go_sem] theorem g128_eq {n τ : Nat} {m : Mp} : g128 n [.agg [.int .i64 m.epoch, .int .i64 m.term, .sl τ 2 (m.tree.devices.map (enDev.av τ)), .sl τ 3 (m.tree.buckets.map (enBkt.av τ)), .sl τ 4 (m.rules.map (enRule.av τ)), .sl τ 6 (m.pools.map (enPool.av τ)), .sl τ 1 (m.up.map (AV.int .i64)), .sl τ 1 (m.out.map (AV.int .i64))]] = ⟨τ ≠ 0, .bool (rulesOk m)⟩ := semT1_eq  (E := enMp) (seen_Mp)
theorem p128 : Pure Tryz.prog 128 g128 := by
  refine semT1_pure fun τ m n h2 hpre => ?_
  have hT : Table Tryz.prog [(106, g106)] := (.cons p106 .nil)
  have hn0 : n ≠ 0 := by omega
  refine SatP.of_body hT hm Tryz.func128 s128 o128 h2 (by simp) ?_
  have hp : τ ≠ 0 := hpre
  simp only [rulesOk]
  generalize hr : chk (ruleP m.tree) none m.rules = r
  simp (config := {contextual := true, maxSteps := 2000000, implicitDefEqProofs := false}) [c128, go_sem]
  intro hL
  refine VW_listKe [] [1] hT h2 hm m.rules [1, 6, 7] (fun pre post (b : Unit) => [(8, .int .i64 pre.length)]) (fun pre post (b : Unit) => chk (ruleP m.tree) pre.getLast? post = r) () ?_ ?_ ?_ ?_
  · exact hr
  · simp [SubE, SubR, go_sem]
  · intro _ hR
    have hR0 : true = r := hR
    simp (config := {contextual := true, maxSteps := 2000000, implicitDefEqProofs := false}) [go_sem]
    grind
  · rintro pre0 x rest _ hl hlen hR
    rcases List.eq_nil_or_concat pre0 with rfl | ⟨q, y, rfl⟩
    · have hln : m.rules.length = 0 + (rest.length + 1) := by rw [← hl]; simp
      have hn : nth (List.map (enRule.av τ) m.rules) (0) = (enRule.av τ) x := by rw [← hl]; simp [go_sem]
      have hw : m.rules.length ≤ maxLen → IntKind.i64.wrap ((0 : Int) + 1) = (0 : Int) + 1 := fun h => wrap_ok (by omega) (by simp only [maxLen] at h; omega)
      have h3 : (0 : Int) ≤ (0 : Int) := by omega
      have h4 : (0 : Int) < (m.rules.length : Int) := by omega
      have h5 : ¬ (m.rules.length : Int) ≤ (0 : Int) := by omega
      have hw0 : IntKind.i64.wrap 1 = 1 := by decide
      have h4n : 0 < m.rules.length := by omega
      simp only [chk, ruleP, List.getLast?_nil] at hR
      (simp (config := {contextual := true, maxSteps := 2000000, implicitDefEqProofs := false}) [go_sem, hp, hL, SubE, SubR, hw0, h4n, hn, hw, h3, h4, h5] <;> grind)
    · have hln : m.rules.length = q.length + 1 + (rest.length + 1) := by rw [← hl]; simp; omega
      have hn : nth (List.map (enRule.av τ) m.rules) (q.length + 1) = (enRule.av τ) x := by rw [← hl]; simp [go_sem]
      have hw : m.rules.length ≤ maxLen → IntKind.i64.wrap (((q.length : Int) + 1) + 1) = ((q.length : Int) + 1) + 1 := fun h => wrap_ok (by omega) (by simp only [maxLen] at h; omega)
      have h3 : (0 : Int) ≤ ((q.length : Int) + 1) := by omega
      have h4 : ((q.length : Int) + 1) < (m.rules.length : Int) := by omega
      have h5 : ¬ (m.rules.length : Int) ≤ ((q.length : Int) + 1) := by omega
      have h6 : nth (List.map (enRule.av τ) m.rules) q.length = (enRule.av τ) y := by rw [← hl]; simp [go_sem]
      have h7 : m.rules.length ≤ maxLen → IntKind.i64.wrap (q.length : Int) = (q.length : Int) := fun h => wrap_ok (by omega) (by simp only [maxLen] at h; omega)
      have h8 : (0 : Int) ≤ (q.length : Int) := by omega
      have h9 : (0 : Int) < ((q.length : Int) + 1) := by omega
      have h10 : (q.length : Int) < (m.rules.length : Int) := by omega
      simp only [chk, ruleP, last_concat] at hR
      (simp (config := {contextual := true, maxSteps := 2000000, implicitDefEqProofs := false}) [go_sem, hp, hL, SubE, SubR, hn, hw, h3, h4, h5, h6, h7, h8, h9, h10] <;> grind)
def c129 : SCode := (.seq (.reg [⟨(some 1), .box 65 (.tmp 0), none⟩,
   ⟨(some 2), .assign (.const (.bool false)), none⟩])
(.seq (.seq (.reg [⟨(some 5), .fieldAddr 65 (.tmp 1) 4, none⟩,
     ⟨(some 6), .load 63 (.tmp 5), none⟩,
     ⟨(some 7), .call ⟨(.builtin .len), #[(.tmp 6)], #[63]⟩, none⟩,
     ⟨(some 8), .move (.const (.int .i64 0)), none⟩])
  (.block 0 (.loop (.seq (.reg [⟨(some 9), .binOp .lss 3 (.tmp 8) (.tmp 7) 3, none⟩])
     (.seq (.cond (.tmp 9) .skip
       (.exit 0))
      (.seq (.block 1 (.seq (.reg [⟨(some 10), .move (.tmp 8), none⟩,
            ⟨(some 11), .indexAddr 63 (.tmp 6) (.tmp 8), none⟩,
            ⟨(some 12), .load 152 (.tmp 11), none⟩,
            ⟨(some 4), .alloc 152, none⟩,
            ⟨(some 3), .assign (.tmp 10), none⟩,
            ⟨none, .store 152 (.tmp 4) (.tmp 12), none⟩])
         (.seq (.draw [⟨(some 13), .load 152 (.tmp 4), none⟩,
             ⟨(some 14), .call ⟨(.value (.func 173)), #[(.tmp 13)], #[152]⟩, none⟩,
             ⟨(some 15), .unOp .not 4 (.tmp 14), none⟩,
             ⟨(some 16), .move (.tmp 15), none⟩,
             ⟨(some 17), .move (.tmp 3), (some (16, false))⟩,
             ⟨(some 18), .binOp .gtr 3 (.tmp 17) (.const (.int .i64 0)) 3, (some (16, false))⟩,
             ⟨(some 19), .move (.tmp 18), (some (16, false))⟩,
             ⟨(some 20), .fieldAddr 152 (.tmp 4) 0, (some (19, true))⟩,
             ⟨(some 21), .load 2 (.tmp 20), (some (19, true))⟩,
             ⟨(some 22), .fieldAddr 65 (.tmp 1) 4, (some (19, true))⟩,
             ⟨(some 23), .load 63 (.tmp 22), (some (19, true))⟩,
             ⟨(some 24), .move (.tmp 3), (some (19, true))⟩,
             ⟨(some 25), .binOp .sub 3 (.tmp 24) (.const (.int .i64 1)) 3, (some (19, true))⟩,
             ⟨(some 26), .indexAddr 63 (.tmp 23) (.tmp 25), (some (19, true))⟩,
             ⟨(some 27), .fieldAddr 152 (.tmp 26) 0, (some (19, true))⟩,
             ⟨(some 28), .load 2 (.tmp 27), (some (19, true))⟩,
             ⟨(some 29), .binOp .leq 2 (.tmp 21) (.tmp 28) 2, (some (19, true))⟩,
             ⟨(some 30), .pick (.tmp 19) (.tmp 29) (.const (.bool false)), (some (16, false))⟩,
             ⟨(some 31), .pick (.tmp 16) (.const (.bool true)) (.tmp 30), none⟩,
             ⟨(some 32), .move (.tmp 31), none⟩,
             ⟨(some 33), .load 65 (.tmp 1), (some (32, false))⟩,
             ⟨(some 34), .fieldAddr 152 (.tmp 4) 4, (some (32, false))⟩,
             ⟨(some 35), .load 2 (.tmp 34), (some (32, false))⟩,
             ⟨(some 36), .call ⟨(.value (.func 133)), #[(.tmp 33), (.tmp 35)], #[65, 2]⟩, (some (32, false))⟩,
             ⟨(some 37), .binOp .eql 165 (.tmp 36) (.const (.pointer none)) 165, (some (32, false))⟩,
             ⟨(some 38), .pick (.tmp 32) (.const (.bool true)) (.tmp 37), none⟩] [[], [0], [0, 1], [0, 1, 2], [0, 1, 2, 3], [0, 1, 2, 3, 4], [0, 1, 2, 3, 4, 5], [0, 1, 2, 3, 4, 5, 6], [0, 1, 2, 3, 4, 5, 6, 7], [0, 1, 2, 3, 4, 5, 6], [0, 1, 2, 3, 4, 5, 6, 9], [0, 1, 2, 3, 4, 5, 6], [0, 1, 2, 3, 4, 5, 6, 11], [0, 1, 2, 3, 4, 5, 6, 9, 10, 11, 12], [0, 1, 2, 3, 4, 5, 6, 9, 10, 11, 12, 13], [0, 1, 2, 3, 4, 5, 6, 9, 10, 11, 12, 13, 14], [0, 1, 2, 3, 4, 5, 6, 7, 8, 9, 10, 11, 12, 13, 14, 15], [0, 1, 2, 3, 4, 5, 6, 7, 8, 9, 10, 11, 12, 13, 14, 15, 16], [0, 1, 2, 3, 4, 5, 6, 7, 8, 9, 10, 11, 12, 13, 14, 15, 16, 17], [0, 1, 2, 3, 4, 5, 6, 7, 8, 9, 10, 11, 12, 13, 14, 15, 16, 17, 18], [0, 1, 2, 3, 4, 5, 6, 7, 8, 9, 10, 11, 12, 13, 14, 15, 16, 17, 18, 19], [0, 1, 2, 3, 4, 5, 6, 7, 8, 9, 10, 11, 12, 13, 14, 15, 16, 17, 18, 19], [0, 1, 2, 3, 4, 5, 6, 7, 8, 9, 10, 11, 12, 13, 14, 15, 16, 17, 18, 19, 21], [0, 1, 2, 3, 4, 5, 6, 7, 8, 9, 10, 11, 12, 13, 14, 15, 16, 17, 18, 19, 20, 21, 22], [0, 1, 2, 3, 4, 5, 6, 7, 8, 9, 10, 11, 12, 13, 14, 15, 16, 17, 18, 19, 20, 21, 22, 23], [0, 1, 2, 3, 4, 5, 6, 7, 8, 9, 10, 11, 12, 13, 14, 15, 16, 17, 18, 19, 20, 21, 22, 23, 24]])
          (.cond (.tmp 38) (.seq (.reg [⟨(some 2), .assign (.const (.bool false)), none⟩])
            .ret)
           .skip))))
       (.reg [⟨(some 39), .binOp .add 3 (.tmp 8) (.const (.int .i64 1)) 3, none⟩,
          ⟨(some 8), .move (.tmp 39), none⟩])))))))
 (.seq (.reg [⟨(some 40), .fieldAddr 65 (.tmp 1) 4, none⟩,
     ⟨(some 41), .load 63 (.tmp 40), none⟩,
     ⟨(some 42), .call ⟨(.builtin .len), #[(.tmp 41)], #[63]⟩, none⟩,
     ⟨(some 43), .binOp .leq 3 (.tmp 42) (.const (.int .i64 4)) 3, none⟩,
     ⟨(some 2), .assign (.tmp 43), none⟩])
  .ret)))
theorem s129 : slimF Tryz.f129 = some (c129, [.t 2], 44) := by kernel_rfl
theorem o129 : okF [(173, g173), (133, g133)] Tryz.f129 = true := by kernel_rfl
noncomputable def g129 : Fsem := semT1 enMp (fun τ m => τ ≠ 0) (fun n τ m => .bool (poolsOk m))
@[go_sem] theorem g129_eq {n τ : Nat} {m : Mp} : g129 n [.agg [.int .i64 m.epoch, .int .i64 m.term, .sl τ 2 (m.tree.devices.map (enDev.av τ)), .sl τ 3 (m.tree.buckets.map (enBkt.av τ)), .sl τ 4 (m.rules.map (enRule.av τ)), .sl τ 6 (m.pools.map (enPool.av τ)), .sl τ 1 (m.up.map (AV.int .i64)), .sl τ 1 (m.out.map (AV.int .i64))]] = ⟨τ ≠ 0, .bool (poolsOk m)⟩ := semT1_eq  (E := enMp) (seen_Mp)
theorem p129 : Pure Tryz.prog 129 g129 := by
  refine semT1_pure fun τ m n h2 hpre => ?_
  have hT : Table Tryz.prog [(173, g173), (133, g133)] := (.cons p173 (.cons p133 .nil))
  have hn0 : n ≠ 0 := by omega
  refine SatP.of_body hT hm Tryz.func129 s129 o129 h2 (by simp) ?_
  have hp : τ ≠ 0 := hpre
  simp only [poolsOk]
  generalize hr : chk (poolP m) none m.pools = r
  simp (config := {contextual := true, maxSteps := 2000000, implicitDefEqProofs := false}) [c129, go_sem]
  intro hL
  refine VW_listKe [] [1] hT h2 hm m.pools [1, 6, 7] (fun pre post (b : Unit) => [(8, .int .i64 pre.length)]) (fun pre post (b : Unit) => chk (poolP m) pre.getLast? post = r) () ?_ ?_ ?_ ?_
  · exact hr
  · simp [SubE, SubR, go_sem]
  · intro _ hR
    have hR0 : true = r := hR
    simp (config := {contextual := true, maxSteps := 2000000, implicitDefEqProofs := false}) [go_sem]
    grind
  · rintro pre0 x rest _ hl hlen hR
    rcases List.eq_nil_or_concat pre0 with rfl | ⟨q, y, rfl⟩
    · have hln : m.pools.length = 0 + (rest.length + 1) := by rw [← hl]; simp
      have hn : nth (List.map (enPool.av τ) m.pools) (0) = (enPool.av τ) x := by rw [← hl]; simp [go_sem]
      have hw : m.pools.length ≤ maxLen → IntKind.i64.wrap ((0 : Int) + 1) = (0 : Int) + 1 := fun h => wrap_ok (by omega) (by simp only [maxLen] at h; omega)
      have h3 : (0 : Int) ≤ (0 : Int) := by omega
      have h4 : (0 : Int) < (m.pools.length : Int) := by omega
      have h5 : ¬ (m.pools.length : Int) ≤ (0 : Int) := by omega
      have hw0 : IntKind.i64.wrap 1 = 1 := by decide
      have h4n : 0 < m.pools.length := by omega
      simp only [chk, poolP, List.getLast?_nil] at hR
      cases hrl : ruleO m x.rule <;> simp only [hrl, Option.isSome_none, Option.isSome_some] at hR <;> (simp (config := {contextual := true, maxSteps := 2000000, implicitDefEqProofs := false}) [go_sem, hp, hL, hrl, SubE, SubR, hw0, h4n, hn, hw, h3, h4, h5] <;> grind)
    · have hln : m.pools.length = q.length + 1 + (rest.length + 1) := by rw [← hl]; simp; omega
      have hn : nth (List.map (enPool.av τ) m.pools) (q.length + 1) = (enPool.av τ) x := by rw [← hl]; simp [go_sem]
      have hw : m.pools.length ≤ maxLen → IntKind.i64.wrap (((q.length : Int) + 1) + 1) = ((q.length : Int) + 1) + 1 := fun h => wrap_ok (by omega) (by simp only [maxLen] at h; omega)
      have h3 : (0 : Int) ≤ ((q.length : Int) + 1) := by omega
      have h4 : ((q.length : Int) + 1) < (m.pools.length : Int) := by omega
      have h5 : ¬ (m.pools.length : Int) ≤ ((q.length : Int) + 1) := by omega
      have h6 : nth (List.map (enPool.av τ) m.pools) q.length = (enPool.av τ) y := by rw [← hl]; simp [go_sem]
      have h7 : m.pools.length ≤ maxLen → IntKind.i64.wrap (q.length : Int) = (q.length : Int) := fun h => wrap_ok (by omega) (by simp only [maxLen] at h; omega)
      have h8 : (0 : Int) ≤ (q.length : Int) := by omega
      have h9 : (0 : Int) < ((q.length : Int) + 1) := by omega
      have h10 : (q.length : Int) < (m.pools.length : Int) := by omega
      simp only [chk, poolP, last_concat] at hR
      cases hrl : ruleO m x.rule <;> simp only [hrl, Option.isSome_none, Option.isSome_some] at hR <;> (simp (config := {contextual := true, maxSteps := 2000000, implicitDefEqProofs := false}) [go_sem, hp, hL, hrl, SubE, SubR, hn, hw, h3, h4, h5, h6, h7, h8, h9, h10] <;> grind)
def c68 : SCode := (.seq (.reg [⟨(some 1), .box 65 (.tmp 0), none⟩,
   ⟨(some 2), .assign (.const (.bool false)), none⟩])
(.seq (.reg [⟨(some 3), .fieldAddr 65 (.tmp 1) 0, none⟩,
    ⟨(some 4), .load 2 (.tmp 3), none⟩,
    ⟨(some 5), .call ⟨(.value (.func 82)), #[(.tmp 4), (.const (.int .i64 1)), (.const (.int .i64 60))], #[2, 2, 2]⟩, none⟩,
    ⟨(some 6), .move (.tmp 5), none⟩,
    ⟨(some 7), .fieldAddr 65 (.tmp 1) 1, (some (6, true))⟩,
    ⟨(some 8), .load 2 (.tmp 7), (some (6, true))⟩,
    ⟨(some 9), .fieldAddr 65 (.tmp 1) 0, (some (6, true))⟩,
    ⟨(some 10), .load 2 (.tmp 9), (some (6, true))⟩,
    ⟨(some 11), .call ⟨(.value (.func 82)), #[(.tmp 8), (.const (.int .i64 0)), (.tmp 10)], #[2, 2, 2]⟩, (some (6, true))⟩,
    ⟨(some 12), .pick (.tmp 6) (.tmp 11) (.const (.bool false)), none⟩,
    ⟨(some 13), .move (.tmp 12), none⟩,
    ⟨(some 14), .fieldAddr 65 (.tmp 1) 2, (some (13, true))⟩,
    ⟨(some 15), .load 39 (.tmp 14), (some (13, true))⟩,
    ⟨(some 16), .call ⟨(.value (.func 105)), #[(.tmp 15)], #[39]⟩, (some (13, true))⟩,
    ⟨(some 17), .pick (.tmp 13) (.tmp 16) (.const (.bool false)), none⟩,
    ⟨(some 18), .move (.tmp 17), none⟩,
    ⟨(some 19), .load 65 (.tmp 1), (some (18, true))⟩,
    ⟨(some 20), .call ⟨(.value (.func 128)), #[(.tmp 19)], #[65]⟩, (some (18, true))⟩,
    ⟨(some 21), .pick (.tmp 18) (.tmp 20) (.const (.bool false)), none⟩,
    ⟨(some 22), .move (.tmp 21), none⟩,
    ⟨(some 23), .load 65 (.tmp 1), (some (22, true))⟩,
    ⟨(some 24), .call ⟨(.value (.func 129)), #[(.tmp 23)], #[65]⟩, (some (22, true))⟩,
    ⟨(some 25), .pick (.tmp 22) (.tmp 24) (.const (.bool false)), none⟩,
    ⟨(some 26), .move (.tmp 25), none⟩,
    ⟨(some 27), .fieldAddr 65 (.tmp 1) 2, (some (26, true))⟩,
    ⟨(some 28), .load 39 (.tmp 27), (some (26, true))⟩,
    ⟨(some 29), .fieldAddr 65 (.tmp 1) 5, (some (26, true))⟩,
    ⟨(some 30), .load 28 (.tmp 29), (some (26, true))⟩,
    ⟨(some 31), .call ⟨(.value (.func 130)), #[(.tmp 28), (.tmp 30)], #[39, 28]⟩, (some (26, true))⟩,
    ⟨(some 32), .pick (.tmp 26) (.tmp 31) (.const (.bool false)), none⟩,
    ⟨(some 33), .move (.tmp 32), none⟩,
    ⟨(some 34), .fieldAddr 65 (.tmp 1) 2, (some (33, true))⟩,
    ⟨(some 35), .load 39 (.tmp 34), (some (33, true))⟩,
    ⟨(some 36), .fieldAddr 65 (.tmp 1) 6, (some (33, true))⟩,
    ⟨(some 37), .load 28 (.tmp 36), (some (33, true))⟩,
    ⟨(some 38), .call ⟨(.value (.func 130)), #[(.tmp 35), (.tmp 37)], #[39, 28]⟩, (some (33, true))⟩,
    ⟨(some 39), .pick (.tmp 33) (.tmp 38) (.const (.bool false)), none⟩,
    ⟨(some 2), .assign (.tmp 39), none⟩])
 .ret))
theorem s68 : slimF Tryz.f68 = some (c68, [.t 2], 40) := by kernel_rfl
theorem o68 : okF [(82, g82), (105, g105), (128, g128), (129, g129), (130, g130)] Tryz.f68 = true := by kernel_rfl
noncomputable def g68 : Fsem := semT1 enMp (fun τ m => τ ≠ 0) (fun n τ m => .bool (mapOk m))
@[go_sem] theorem g68_eq {n τ : Nat} {m : Mp} : g68 n [.agg [.int .i64 m.epoch, .int .i64 m.term, .sl τ 2 (m.tree.devices.map (enDev.av τ)), .sl τ 3 (m.tree.buckets.map (enBkt.av τ)), .sl τ 4 (m.rules.map (enRule.av τ)), .sl τ 6 (m.pools.map (enPool.av τ)), .sl τ 1 (m.up.map (AV.int .i64)), .sl τ 1 (m.out.map (AV.int .i64))]] = ⟨τ ≠ 0, .bool (mapOk m)⟩ := semT1_eq  (E := enMp) (seen_Mp)
theorem p68 : Pure Tryz.prog 68 g68 := by
  refine semT1_pure fun τ m n h2 hpre => ?_
  have hT : Table Tryz.prog [(82, g82), (105, g105), (128, g128), (129, g129), (130, g130)] := (.cons p82 (.cons p105 (.cons p128 (.cons p129 (.cons p130 .nil)))))
  have hn0 : n ≠ 0 := by omega
  refine SatP.of_body hT hm Tryz.func68 s68 o68 h2 (by simp) ?_
  have hp : τ ≠ 0 := hpre
  simp (config := {contextual := true, maxSteps := 2000000, implicitDefEqProofs := false}) [c68, go_sem, hp, mapOk]
def c122 : SCode := (.seq (.reg [⟨(some 2), .box 39 (.tmp 0), none⟩,
   ⟨(some 4), .assign (.const (.bool false)), none⟩])
(.seq (.seq (.reg [⟨(some 5), .assign (.const (.int .i64 0)), none⟩])
  (.block 0 (.loop (.seq (.seq (.reg [⟨(some 6), .move (.tmp 5), none⟩,
         ⟨(some 7), .move (.tmp 1), none⟩,
         ⟨(some 8), .call ⟨(.builtin .len), #[(.tmp 7)], #[28]⟩, none⟩,
         ⟨(some 9), .binOp .lss 3 (.tmp 6) (.tmp 8) 3, none⟩])
      (.cond (.tmp 9) .skip
       (.exit 0)))
     (.seq (.block 1 (.seq (.draw [⟨(some 12), .load 39 (.tmp 2), none⟩,
           ⟨(some 13), .move (.tmp 1), none⟩,
           ⟨(some 14), .move (.tmp 5), none⟩,
           ⟨(some 15), .indexAddr 28 (.tmp 13) (.tmp 14), none⟩,
           ⟨(some 16), .load 2 (.tmp 15), none⟩,
           ⟨(some 17), .call ⟨(.value (.func 144)), #[(.tmp 12), (.tmp 16)], #[39, 2]⟩, none⟩,
           ⟨(some 18), .binOp .lss 3 (.tmp 17) (.const (.int .i64 0)) 3, none⟩,
           ⟨(some 19), .move (.tmp 18), none⟩,
           ⟨(some 20), .move (.tmp 5), (some (19, false))⟩,
           ⟨(some 21), .binOp .gtr 3 (.tmp 20) (.const (.int .i64 0)) 3, (some (19, false))⟩,
           ⟨(some 22), .move (.tmp 21), (some (19, false))⟩,
           ⟨(some 23), .move (.tmp 1), (some (22, true))⟩,
           ⟨(some 24), .move (.tmp 5), (some (22, true))⟩,
           ⟨(some 25), .binOp .sub 3 (.tmp 24) (.const (.int .i64 1)) 3, (some (22, true))⟩,
           ⟨(some 26), .indexAddr 28 (.tmp 23) (.tmp 25), (some (22, true))⟩,
           ⟨(some 27), .load 2 (.tmp 26), (some (22, true))⟩,
           ⟨(some 28), .move (.tmp 1), (some (22, true))⟩,
           ⟨(some 29), .move (.tmp 5), (some (22, true))⟩,
           ⟨(some 30), .indexAddr 28 (.tmp 28) (.tmp 29), (some (22, true))⟩,
           ⟨(some 31), .load 2 (.tmp 30), (some (22, true))⟩,
           ⟨(some 32), .binOp .geq 2 (.tmp 27) (.tmp 31) 2, (some (22, true))⟩,
           ⟨(some 33), .pick (.tmp 22) (.tmp 32) (.const (.bool false)), (some (19, false))⟩,
           ⟨(some 34), .pick (.tmp 19) (.const (.bool true)) (.tmp 33), none⟩] [[], [], [], [1, 2], [1, 2, 3], [0, 1, 2, 3, 4], [0, 1, 2, 3, 4, 5], [0, 1, 2, 3, 4, 5, 6], [0, 1, 2, 3, 4, 5, 6, 7], [0, 1, 2, 3, 4, 5, 6, 7, 8], [0, 1, 2, 3, 4, 5, 6, 7, 8, 9], [0, 1, 2, 3, 4, 5, 6, 7, 8, 9, 10], [0, 1, 2, 3, 4, 5, 6, 7, 8, 9, 10], [0, 1, 2, 3, 4, 5, 6, 7, 8, 9, 10, 12], [0, 1, 2, 3, 4, 5, 6, 7, 8, 9, 10, 11, 12, 13], [0, 1, 2, 3, 4, 5, 6, 7, 8, 9, 10, 11, 12, 13, 14], [0, 1, 2, 3, 4, 5, 6, 7, 8, 9, 10], [0, 1, 2, 3, 4, 5, 6, 7, 8, 9, 10], [0, 1, 2, 3, 4, 5, 6, 7, 8, 9, 10, 16, 17], [0, 1, 2, 3, 4, 5, 6, 7, 8, 9, 10, 16, 17, 18], [0, 1, 2, 3, 4, 5, 6, 7, 8, 9, 10, 11, 12, 13, 14, 15, 16, 17, 18, 19], [0, 1, 2, 3, 4, 5, 6, 7, 8, 9, 10, 11, 12, 13, 14, 15, 16, 17, 18, 19, 20], [0, 1, 2, 3, 4, 5, 6, 7, 8, 9, 10, 11, 12, 13, 14, 15, 16, 17, 18, 19, 20, 21]])
        (.cond (.tmp 34) (.seq (.reg [⟨(some 4), .assign (.const (.bool false)), none⟩])
          .ret)
         .skip)))
      (.reg [⟨(some 10), .move (.tmp 5), none⟩,
         ⟨(some 11), .binOp .add 3 (.tmp 10) (.const (.int .i64 1)) 3, none⟩,
         ⟨(some 5), .assign (.tmp 11), none⟩]))))))
 (.seq (.reg [⟨(some 4), .assign (.const (.bool true)), none⟩])
  .ret)))
theorem s122 : slimF Tryz.f122 = some (c122, [.t 4], 35) := by kernel_rfl
theorem o122 : okF [(144, g144)] Tryz.f122 = true := by kernel_rfl
noncomputable def g122 : Fsem := sem2 enTree (En.int .i64).list (fun t l => True) (fun n t l => .bool (nodesOk t l))
@[go_sem] theorem g122_eq {n τ τ' : Nat} {t : Tree} {l : List Int} : g122 n [.agg [.sl τ 2 (t.devices.map (enDev.av τ)), .sl τ 3 (t.buckets.map (enBkt.av τ))], .sl τ' 1 (l.map (AV.int .i64))] = ⟨True, .bool (nodesOk t l)⟩ := sem2_eq  (E := enTree) (F := (En.int .i64).list)
theorem p122 : Pure Tryz.prog 122 g122 := by
  refine sem2_pure fun τ τ' t l n h2 hpre => ?_
  have hT : Table Tryz.prog [(144, g144)] := (.cons p144 .nil)
  have hn0 : n ≠ 0 := by omega
  refine SatP.of_body hT hm Tryz.func122 s122 o122 h2 (by simp) ?_
  unfold nodesOk incr
  rw [← nodes_chk]
  generalize hr : chk (nodeP t) none l = r
  simp (config := {contextual := true, maxSteps := 2000000, implicitDefEqProofs := false}) [c122, go_sem]
  refine VW_listK hT h2 hm l [1, 2] (fun pre post (b : Unit) => [(5, .int .i64 pre.length)]) (fun pre post (b : Unit) => chk (nodeP t) pre.getLast? post = r) () ?_ ?_ ?_ ?_
  · exact hr
  · simp [SubI, go_sem]
  · intro _ hR
    have hR0 : true = r := hR
    simp (config := {contextual := true, maxSteps := 2000000, implicitDefEqProofs := false}) [go_sem]
    grind
  · rintro pre0 x rest _ hl hlen hR
    rcases List.eq_nil_or_concat pre0 with rfl | ⟨q, y, rfl⟩
    · have hln : l.length = 0 + (rest.length + 1) := by rw [← hl]; simp
      have hn : nth (List.map (AV.int .i64) l) (0) = (AV.int .i64) x := by rw [← hl]; simp [go_sem]
      have hw : l.length ≤ maxLen → IntKind.i64.wrap ((0 : Int) + 1) = (0 : Int) + 1 := fun h => wrap_ok (by omega) (by simp only [maxLen] at h; omega)
      have h3 : (0 : Int) ≤ (0 : Int) := by omega
      have h4 : (0 : Int) < (l.length : Int) := by omega
      have h5 : ¬ (l.length : Int) ≤ (0 : Int) := by omega
      have hw0 : IntKind.i64.wrap 1 = 1 := by decide
      have h4n : 0 < l.length := by omega
      simp only [chk, nodeP, incP, List.getLast?_nil] at hR
      (simp (config := {contextual := true, maxSteps := 2000000, implicitDefEqProofs := false}) [go_sem, SubI, hw0, h4n, hn, hw, h3, h4, h5] <;> grind)
    · have hln : l.length = q.length + 1 + (rest.length + 1) := by rw [← hl]; simp; omega
      have hn : nth (List.map (AV.int .i64) l) (q.length + 1) = (AV.int .i64) x := by rw [← hl]; simp [go_sem]
      have hw : l.length ≤ maxLen → IntKind.i64.wrap (((q.length : Int) + 1) + 1) = ((q.length : Int) + 1) + 1 := fun h => wrap_ok (by omega) (by simp only [maxLen] at h; omega)
      have h3 : (0 : Int) ≤ ((q.length : Int) + 1) := by omega
      have h4 : ((q.length : Int) + 1) < (l.length : Int) := by omega
      have h5 : ¬ (l.length : Int) ≤ ((q.length : Int) + 1) := by omega
      have h6 : nth (List.map (AV.int .i64) l) q.length = (AV.int .i64) y := by rw [← hl]; simp [go_sem]
      have h7 : l.length ≤ maxLen → IntKind.i64.wrap (q.length : Int) = (q.length : Int) := fun h => wrap_ok (by omega) (by simp only [maxLen] at h; omega)
      have h8 : (0 : Int) ≤ (q.length : Int) := by omega
      have h9 : (0 : Int) < ((q.length : Int) + 1) := by omega
      have h10 : (q.length : Int) < (l.length : Int) := by omega
      simp only [chk, nodeP, incP, last_concat] at hR
      (simp (config := {contextual := true, maxSteps := 2000000, implicitDefEqProofs := false}) [go_sem, SubI, hn, hw, h3, h4, h5, h6, h7, h8, h9, h10] <;> grind)
def c63 : SCode := (.seq (.reg [⟨(some 1), .box 65 (.tmp 0), none⟩,
   ⟨(some 2), .assign (.const (.bool false)), none⟩])
(.seq (.seq (.reg [⟨(some 5), .fieldAddr 65 (.tmp 1) 0, none⟩,
     ⟨(some 6), .load 2 (.tmp 5), none⟩,
     ⟨(some 7), .call ⟨(.value (.func 93)), #[(.tmp 6), (.const (.int .i64 1)), (.const (.int .i64 60))], #[2, 2, 2]⟩, none⟩,
     ⟨(some 8), .unOp .not 4 (.tmp 7), none⟩,
     ⟨(some 9), .move (.tmp 8), none⟩,
     ⟨(some 10), .fieldAddr 65 (.tmp 1) 1, (some (9, false))⟩,
     ⟨(some 11), .load 2 (.tmp 10), (some (9, false))⟩,
     ⟨(some 12), .fieldAddr 65 (.tmp 1) 0, (some (9, false))⟩,
     ⟨(some 13), .load 2 (.tmp 12), (some (9, false))⟩,
     ⟨(some 14), .call ⟨(.value (.func 93)), #[(.tmp 11), (.const (.int .i64 0)), (.tmp 13)], #[2, 2, 2]⟩, (some (9, false))⟩,
     ⟨(some 15), .unOp .not 4 (.tmp 14), (some (9, false))⟩,
     ⟨(some 16), .pick (.tmp 9) (.const (.bool true)) (.tmp 15), none⟩,
     ⟨(some 17), .move (.tmp 16), none⟩,
     ⟨(some 18), .fieldAddr 65 (.tmp 1) 2, (some (17, false))⟩,
     ⟨(some 19), .load 39 (.tmp 18), (some (17, false))⟩,
     ⟨(some 20), .call ⟨(.value (.func 118)), #[(.tmp 19)], #[39]⟩, (some (17, false))⟩,
     ⟨(some 21), .unOp .not 4 (.tmp 20), (some (17, false))⟩,
     ⟨(some 22), .pick (.tmp 17) (.const (.bool true)) (.tmp 21), none⟩,
     ⟨(some 23), .move (.tmp 22), none⟩,
     ⟨(some 24), .fieldAddr 65 (.tmp 1) 3, (some (23, false))⟩,
     ⟨(some 25), .load 62 (.tmp 24), (some (23, false))⟩,
     ⟨(some 26), .call ⟨(.builtin .len), #[(.tmp 25)], #[62]⟩, (some (23, false))⟩,
     ⟨(some 27), .binOp .gtr 3 (.tmp 26) (.const (.int .i64 4)) 3, (some (23, false))⟩,
     ⟨(some 28), .pick (.tmp 23) (.const (.bool true)) (.tmp 27), none⟩,
     ⟨(some 29), .move (.tmp 28), none⟩,
     ⟨(some 30), .fieldAddr 65 (.tmp 1) 4, (some (29, false))⟩,
     ⟨(some 31), .load 63 (.tmp 30), (some (29, false))⟩,
     ⟨(some 32), .call ⟨(.builtin .len), #[(.tmp 31)], #[63]⟩, (some (29, false))⟩,
     ⟨(some 33), .binOp .gtr 3 (.tmp 32) (.const (.int .i64 4)) 3, (some (29, false))⟩,
     ⟨(some 34), .pick (.tmp 29) (.const (.bool true)) (.tmp 33), none⟩])
  (.cond (.tmp 34) (.seq (.reg [⟨(some 2), .assign (.const (.bool false)), none⟩])
    .ret)
   .skip))
 (.seq (.seq (.reg [⟨(some 3), .assign (.const (.int .i64 0)), none⟩])
   (.block 0 (.loop (.seq (.seq (.reg [⟨(some 35), .move (.tmp 3), none⟩,
          ⟨(some 36), .fieldAddr 65 (.tmp 1) 3, none⟩,
          ⟨(some 37), .load 62 (.tmp 36), none⟩,
          ⟨(some 38), .call ⟨(.builtin .len), #[(.tmp 37)], #[62]⟩, none⟩,
          ⟨(some 39), .binOp .lss 3 (.tmp 35) (.tmp 38) 3, none⟩])
       (.cond (.tmp 39) .skip
        (.exit 0)))
      (.seq (.block 1 (.seq (.draw [⟨(some 42), .fieldAddr 65 (.tmp 1) 2, none⟩,
            ⟨(some 43), .load 39 (.tmp 42), none⟩,
            ⟨(some 44), .fieldAddr 65 (.tmp 1) 3, none⟩,
            ⟨(some 45), .load 62 (.tmp 44), none⟩,
            ⟨(some 46), .move (.tmp 3), none⟩,
            ⟨(some 47), .indexAddr 62 (.tmp 45) (.tmp 46), none⟩,
            ⟨(some 48), .load 41 (.tmp 47), none⟩,
            ⟨(some 49), .call ⟨(.value (.func 119)), #[(.tmp 43), (.tmp 48)], #[39, 41]⟩, none⟩,
            ⟨(some 50), .unOp .not 4 (.tmp 49), none⟩,
            ⟨(some 51), .move (.tmp 50), none⟩,
            ⟨(some 52), .move (.tmp 3), (some (51, false))⟩,
            ⟨(some 53), .binOp .gtr 3 (.tmp 52) (.const (.int .i64 0)) 3, (some (51, false))⟩,
            ⟨(some 54), .move (.tmp 53), (some (51, false))⟩,
            ⟨(some 55), .fieldAddr 65 (.tmp 1) 3, (some (54, true))⟩,
            ⟨(some 56), .load 62 (.tmp 55), (some (54, true))⟩,
            ⟨(some 57), .move (.tmp 3), (some (54, true))⟩,
            ⟨(some 58), .binOp .sub 3 (.tmp 57) (.const (.int .i64 1)) 3, (some (54, true))⟩,
            ⟨(some 59), .indexAddr 62 (.tmp 56) (.tmp 58), (some (54, true))⟩,
            ⟨(some 60), .fieldAddr 41 (.tmp 59) 0, (some (54, true))⟩,
            ⟨(some 61), .load 2 (.tmp 60), (some (54, true))⟩,
            ⟨(some 62), .fieldAddr 65 (.tmp 1) 3, (some (54, true))⟩,
            ⟨(some 63), .load 62 (.tmp 62), (some (54, true))⟩,
            ⟨(some 64), .move (.tmp 3), (some (54, true))⟩,
            ⟨(some 65), .indexAddr 62 (.tmp 63) (.tmp 64), (some (54, true))⟩,
            ⟨(some 66), .fieldAddr 41 (.tmp 65) 0, (some (54, true))⟩,
            ⟨(some 67), .load 2 (.tmp 66), (some (54, true))⟩,
            ⟨(some 68), .binOp .geq 2 (.tmp 61) (.tmp 67) 2, (some (54, true))⟩,
            ⟨(some 69), .pick (.tmp 54) (.tmp 68) (.const (.bool false)), (some (51, false))⟩,
            ⟨(some 70), .pick (.tmp 51) (.const (.bool true)) (.tmp 69), none⟩] [[], [0], [], [2], [], [2, 3, 4], [2, 3, 4, 5], [0, 1, 2, 3, 4, 5, 6], [0, 1, 2, 3, 4, 5, 6, 7], [0, 1, 2, 3, 4, 5, 6, 7, 8], [0, 1, 2, 3, 4, 5, 6, 7, 8, 9], [0, 1, 2, 3, 4, 5, 6, 7, 8, 9, 10], [0, 1, 2, 3, 4, 5, 6, 7, 8, 9, 10, 11], [0, 1, 2, 3, 4, 5, 6, 7, 8, 9, 10, 11, 12], [0, 1, 2, 3, 4, 5, 6, 7, 8, 9, 10, 11, 12, 13], [0, 1, 2, 3, 4, 5, 6, 7, 8, 9, 10, 11, 12], [0, 1, 2, 3, 4, 5, 6, 7, 8, 9, 10, 11, 12, 15], [0, 1, 2, 3, 4, 5, 6, 7, 8, 9, 10, 11, 12, 13, 14, 15, 16], [0, 1, 2, 3, 4, 5, 6, 7, 8, 9, 10, 11, 12, 13, 14, 15, 16, 17], [0, 1, 2, 3, 4, 5, 6, 7, 8, 9, 10, 11, 12, 13, 14, 15, 16, 17, 18], [0, 1, 2, 3, 4, 5, 6, 7, 8, 9, 10, 11, 12], [0, 1, 2, 3, 4, 5, 6, 7, 8, 9, 10, 11, 12, 20], [0, 1, 2, 3, 4, 5, 6, 7, 8, 9, 10, 11, 12], [0, 1, 2, 3, 4, 5, 6, 7, 8, 9, 10, 11, 12, 20, 21, 22], [0, 1, 2, 3, 4, 5, 6, 7, 8, 9, 10, 11, 12, 20, 21, 22, 23], [0, 1, 2, 3, 4, 5, 6, 7, 8, 9, 10, 11, 12, 20, 21, 22, 23, 24], [0, 1, 2, 3, 4, 5, 6, 7, 8, 9, 10, 11, 12, 13, 14, 15, 16, 17, 18, 19, 20, 21, 22, 23, 24, 25], [0, 1, 2, 3, 4, 5, 6, 7, 8, 9, 10, 11, 12, 13, 14, 15, 16, 17, 18, 19, 20, 21, 22, 23, 24, 25, 26], [0, 1, 2, 3, 4, 5, 6, 7, 8, 9, 10, 11, 12, 13, 14, 15, 16, 17, 18, 19, 20, 21, 22, 23, 24, 25, 26, 27]])
         (.cond (.tmp 70) (.seq (.reg [⟨(some 2), .assign (.const (.bool false)), none⟩])
           .ret)
          .skip)))
       (.reg [⟨(some 40), .move (.tmp 3), none⟩,
          ⟨(some 41), .binOp .add 3 (.tmp 40) (.const (.int .i64 1)) 3, none⟩,
          ⟨(some 3), .assign (.tmp 41), none⟩]))))))
  (.seq (.seq (.reg [⟨(some 4), .assign (.const (.int .i64 0)), none⟩])
    (.block 2 (.loop (.seq (.seq (.reg [⟨(some 71), .move (.tmp 4), none⟩,
           ⟨(some 72), .fieldAddr 65 (.tmp 1) 4, none⟩,
           ⟨(some 73), .load 63 (.tmp 72), none⟩,
           ⟨(some 74), .call ⟨(.builtin .len), #[(.tmp 73)], #[63]⟩, none⟩,
           ⟨(some 75), .binOp .lss 3 (.tmp 71) (.tmp 74) 3, none⟩])
        (.cond (.tmp 75) .skip
         (.exit 2)))
       (.seq (.block 3 (.seq (.draw [⟨(some 78), .fieldAddr 65 (.tmp 1) 4, none⟩,
             ⟨(some 79), .load 63 (.tmp 78), none⟩,
             ⟨(some 80), .move (.tmp 4), none⟩,
             ⟨(some 81), .indexAddr 63 (.tmp 79) (.tmp 80), none⟩,
             ⟨(some 82), .load 152 (.tmp 81), none⟩,
             ⟨(some 83), .call ⟨(.value (.func 120)), #[(.tmp 82)], #[152]⟩, none⟩,
             ⟨(some 84), .unOp .not 4 (.tmp 83), none⟩,
             ⟨(some 85), .move (.tmp 84), none⟩,
             ⟨(some 86), .move (.tmp 4), (some (85, false))⟩,
             ⟨(some 87), .binOp .gtr 3 (.tmp 86) (.const (.int .i64 0)) 3, (some (85, false))⟩,
             ⟨(some 88), .move (.tmp 87), (some (85, false))⟩,
             ⟨(some 89), .fieldAddr 65 (.tmp 1) 4, (some (88, true))⟩,
             ⟨(some 90), .load 63 (.tmp 89), (some (88, true))⟩,
             ⟨(some 91), .move (.tmp 4), (some (88, true))⟩,
             ⟨(some 92), .binOp .sub 3 (.tmp 91) (.const (.int .i64 1)) 3, (some (88, true))⟩,
             ⟨(some 93), .indexAddr 63 (.tmp 90) (.tmp 92), (some (88, true))⟩,
             ⟨(some 94), .fieldAddr 152 (.tmp 93) 0, (some (88, true))⟩,
             ⟨(some 95), .load 2 (.tmp 94), (some (88, true))⟩,
             ⟨(some 96), .fieldAddr 65 (.tmp 1) 4, (some (88, true))⟩,
             ⟨(some 97), .load 63 (.tmp 96), (some (88, true))⟩,
             ⟨(some 98), .move (.tmp 4), (some (88, true))⟩,
             ⟨(some 99), .indexAddr 63 (.tmp 97) (.tmp 98), (some (88, true))⟩,
             ⟨(some 100), .fieldAddr 152 (.tmp 99) 0, (some (88, true))⟩,
             ⟨(some 101), .load 2 (.tmp 100), (some (88, true))⟩,
             ⟨(some 102), .binOp .geq 2 (.tmp 95) (.tmp 101) 2, (some (88, true))⟩,
             ⟨(some 103), .pick (.tmp 88) (.tmp 102) (.const (.bool false)), (some (85, false))⟩,
             ⟨(some 104), .pick (.tmp 85) (.const (.bool true)) (.tmp 103), none⟩,
             ⟨(some 105), .move (.tmp 104), none⟩,
             ⟨(some 106), .load 65 (.tmp 1), (some (105, false))⟩,
             ⟨(some 107), .fieldAddr 65 (.tmp 1) 4, (some (105, false))⟩,
             ⟨(some 108), .load 63 (.tmp 107), (some (105, false))⟩,
             ⟨(some 109), .move (.tmp 4), (some (105, false))⟩,
             ⟨(some 110), .indexAddr 63 (.tmp 108) (.tmp 109), (some (105, false))⟩,
             ⟨(some 111), .fieldAddr 152 (.tmp 110) 4, (some (105, false))⟩,
             ⟨(some 112), .load 2 (.tmp 111), (some (105, false))⟩,
             ⟨(some 113), .call ⟨(.value (.func 121)), #[(.tmp 106), (.tmp 112)], #[65, 2]⟩, (some (105, false))⟩,
             ⟨(some 114), .binOp .lss 3 (.tmp 113) (.const (.int .i64 0)) 3, (some (105, false))⟩,
             ⟨(some 115), .pick (.tmp 105) (.const (.bool true)) (.tmp 114), none⟩] [[], [0], [], [0, 1, 2], [0, 1, 2, 3], [0, 1, 2, 3, 4], [0, 1, 2, 3, 4, 5], [0, 1, 2, 3, 4, 5, 6], [0, 1, 2, 3, 4, 5, 6, 7], [0, 1, 2, 3, 4, 5, 6, 7, 8], [0, 1, 2, 3, 4, 5, 6, 7, 8, 9], [0, 1, 2, 3, 4, 5, 6, 7, 8, 9, 10], [0, 1, 2, 3, 4, 5, 6, 7, 8, 9, 10, 11], [0, 1, 2, 3, 4, 5, 6, 7, 8, 9, 10], [0, 1, 2, 3, 4, 5, 6, 7, 8, 9, 10, 13], [0, 1, 2, 3, 4, 5, 6, 7, 8, 9, 10, 11, 12, 13, 14], [0, 1, 2, 3, 4, 5, 6, 7, 8, 9, 10, 11, 12, 13, 14, 15], [0, 1, 2, 3, 4, 5, 6, 7, 8, 9, 10, 11, 12, 13, 14, 15, 16], [0, 1, 2, 3, 4, 5, 6, 7, 8, 9, 10], [0, 1, 2, 3, 4, 5, 6, 7, 8, 9, 10, 18], [0, 1, 2, 3, 4, 5, 6, 7, 8, 9, 10], [0, 1, 2, 3, 4, 5, 6, 7, 8, 9, 10, 18, 19, 20], [0, 1, 2, 3, 4, 5, 6, 7, 8, 9, 10, 18, 19, 20, 21], [0, 1, 2, 3, 4, 5, 6, 7, 8, 9, 10, 18, 19, 20, 21, 22], [0, 1, 2, 3, 4, 5, 6, 7, 8, 9, 10, 11, 12, 13, 14, 15, 16, 17, 18, 19, 20, 21, 22, 23], [0, 1, 2, 3, 4, 5, 6, 7, 8, 9, 10, 11, 12, 13, 14, 15, 16, 17, 18, 19, 20, 21, 22, 23, 24], [0, 1, 2, 3, 4, 5, 6, 7, 8, 9, 10, 11, 12, 13, 14, 15, 16, 17, 18, 19, 20, 21, 22, 23, 24, 25], [0, 1, 2, 3, 4, 5, 6, 7, 8, 9, 10, 11, 12, 13, 14, 15, 16, 17, 18, 19, 20, 21, 22, 23, 24, 25, 26], [0, 1, 2, 3, 4, 5, 6, 7, 8, 9, 10, 11, 12, 13, 14, 15, 16, 17, 18, 19, 20, 21, 22, 23, 24, 25, 26, 27], [0, 1, 2, 3, 4, 5, 6, 7, 8, 9, 10, 11, 12, 13, 14, 15, 16, 17, 18, 19, 20, 21, 22, 23, 24, 25, 26, 27], [0, 1, 2, 3, 4, 5, 6, 7, 8, 9, 10, 11, 12, 13, 14, 15, 16, 17, 18, 19, 20, 21, 22, 23, 24, 25, 26, 27, 29], [0, 1, 2, 3, 4, 5, 6, 7, 8, 9, 10, 11, 12, 13, 14, 15, 16, 17, 18, 19, 20, 21, 22, 23, 24, 25, 26, 27], [0, 1, 2, 3, 4, 5, 6, 7, 8, 9, 10, 11, 12, 13, 14, 15, 16, 17, 18, 19, 20, 21, 22, 23, 24, 25, 26, 27, 29, 30, 31], [0, 1, 2, 3, 4, 5, 6, 7, 8, 9, 10, 11, 12, 13, 14, 15, 16, 17, 18, 19, 20, 21, 22, 23, 24, 25, 26, 27, 29, 30, 31, 32], [0, 1, 2, 3, 4, 5, 6, 7, 8, 9, 10, 11, 12, 13, 14, 15, 16, 17, 18, 19, 20, 21, 22, 23, 24, 25, 26, 27, 29, 30, 31, 32, 33], [0, 1, 2, 3, 4, 5, 6, 7, 8, 9, 10, 11, 12, 13, 14, 15, 16, 17, 18, 19, 20, 21, 22, 23, 24, 25, 26, 27, 28, 29, 30, 31, 32, 33, 34], [0, 1, 2, 3, 4, 5, 6, 7, 8, 9, 10, 11, 12, 13, 14, 15, 16, 17, 18, 19, 20, 21, 22, 23, 24, 25, 26, 27, 28, 29, 30, 31, 32, 33, 34, 35], [0, 1, 2, 3, 4, 5, 6, 7, 8, 9, 10, 11, 12, 13, 14, 15, 16, 17, 18, 19, 20, 21, 22, 23, 24, 25, 26, 27, 28, 29, 30, 31, 32, 33, 34, 35, 36]])
          (.cond (.tmp 115) (.seq (.reg [⟨(some 2), .assign (.const (.bool false)), none⟩])
            .ret)
           .skip)))
        (.reg [⟨(some 76), .move (.tmp 4), none⟩,
           ⟨(some 77), .binOp .add 3 (.tmp 76) (.const (.int .i64 1)) 3, none⟩,
           ⟨(some 4), .assign (.tmp 77), none⟩]))))))
   (.seq (.reg [⟨(some 116), .fieldAddr 65 (.tmp 1) 2, none⟩,
       ⟨(some 117), .load 39 (.tmp 116), none⟩,
       ⟨(some 118), .fieldAddr 65 (.tmp 1) 5, none⟩,
       ⟨(some 119), .load 28 (.tmp 118), none⟩,
       ⟨(some 120), .call ⟨(.value (.func 122)), #[(.tmp 117), (.tmp 119)], #[39, 28]⟩, none⟩,
       ⟨(some 121), .move (.tmp 120), none⟩,
       ⟨(some 122), .fieldAddr 65 (.tmp 1) 2, (some (121, true))⟩,
       ⟨(some 123), .load 39 (.tmp 122), (some (121, true))⟩,
       ⟨(some 124), .fieldAddr 65 (.tmp 1) 6, (some (121, true))⟩,
       ⟨(some 125), .load 28 (.tmp 124), (some (121, true))⟩,
       ⟨(some 126), .call ⟨(.value (.func 122)), #[(.tmp 123), (.tmp 125)], #[39, 28]⟩, (some (121, true))⟩,
       ⟨(some 127), .pick (.tmp 121) (.tmp 126) (.const (.bool false)), none⟩,
       ⟨(some 2), .assign (.tmp 127), none⟩])
    .ret)))))
theorem s63 : slimF Tryz.f63 = some (c63, [.t 2], 128) := by kernel_rfl
theorem o63 : okF [(93, g93), (118, g118), (119, g119), (120, g120), (121, g121), (122, g122)] Tryz.f63 = true := by kernel_rfl
noncomputable def g63 : Fsem := sem1 enMp (fun m => True) (fun n m => .bool (mapOk m))
@[go_sem] theorem g63_eq {n τ : Nat} {m : Mp} : g63 n [.agg [.int .i64 m.epoch, .int .i64 m.term, .sl τ 2 (m.tree.devices.map (enDev.av τ)), .sl τ 3 (m.tree.buckets.map (enBkt.av τ)), .sl τ 4 (m.rules.map (enRule.av τ)), .sl τ 6 (m.pools.map (enPool.av τ)), .sl τ 1 (m.up.map (AV.int .i64)), .sl τ 1 (m.out.map (AV.int .i64))]] = ⟨True, .bool (mapOk m)⟩ := sem1_eq  (E := enMp)
theorem p63 : Pure Tryz.prog 63 g63 := by
  refine sem1_pure fun τ m n h2 hpre => ?_
  have hT : Table Tryz.prog [(93, g93), (118, g118), (119, g119), (120, g120), (121, g121), (122, g122)] := (.cons p93 (.cons p118 (.cons p119 (.cons p120 (.cons p121 (.cons p122 .nil))))))
  have hn0 : n ≠ 0 := by omega
  refine SatP.of_body hT hm Tryz.func63 s63 o63 h2 (by simp) ?_
  have hn : ∀ r1 r2, chk (ruleP m.tree) none m.rules = r1 → chk (poolP m) none m.pools = r2 → mapOk m = (btw m.epoch 1 60 && btw m.term 0 m.epoch && treeOk m.tree && (r1 && decide (m.rules.length ≤ 4)) && (r2 && decide (m.pools.length ≤ 4)) && nodesOk m.tree m.up && nodesOk m.tree m.out) := by
    rintro r1 r2 rfl rfl
    rfl
  generalize hr1 : chk (ruleP m.tree) none m.rules = r1
  generalize hr2 : chk (poolP m) none m.pools = r2
  rw [hn r1 r2 hr1 hr2]
  simp (config := {contextual := true, maxSteps := 2000000, implicitDefEqProofs := false}) [c63, go_sem]
  refine ⟨fun h => by grind, ?_⟩
  intro hb1 hb2 ht hl1 hl2
  refine VW_listK hT h2 hm m.rules [1] (fun pre post (b : Unit) => [(3, .int .i64 pre.length)]) (fun pre post (b : Unit) => chk (ruleP m.tree) pre.getLast? post = r1) () ?_ ?_ ?_ ?_
  · exact hr1
  · simp [SubI, go_sem]
  · intro _ hR
    have hR0 : true = r1 := hR
    simp (config := {contextual := true, maxSteps := 2000000, implicitDefEqProofs := false}) [go_sem]
    intro hL1
    refine VW_listK hT h2 hm m.pools [1] (fun pre post (b : Unit) => [(4, .int .i64 pre.length)]) (fun pre post (b : Unit) => chk (poolP m) pre.getLast? post = r2) () ?_ ?_ ?_ ?_
    · exact hr2
    · simp [SubI, go_sem]
    · intro _ hR
      have hR0 : true = r2 := hR
      simp (config := {contextual := true, maxSteps := 2000000, implicitDefEqProofs := false}) [go_sem]
      grind
    · rintro pre0 x rest _ hl hlen hR
      rcases List.eq_nil_or_concat pre0 with rfl | ⟨q, y, rfl⟩
      · have hln : m.pools.length = 0 + (rest.length + 1) := by rw [← hl]; simp
        have hn : nth (List.map (enPool.av τ) m.pools) (0) = (enPool.av τ) x := by rw [← hl]; simp [go_sem]
        have hw : m.pools.length ≤ maxLen → IntKind.i64.wrap ((0 : Int) + 1) = (0 : Int) + 1 := fun h => wrap_ok (by omega) (by simp only [maxLen] at h; omega)
        have h3 : (0 : Int) ≤ (0 : Int) := by omega
        have h4 : (0 : Int) < (m.pools.length : Int) := by omega
        have h5 : ¬ (m.pools.length : Int) ≤ (0 : Int) := by omega
        have hw0 : IntKind.i64.wrap 1 = 1 := by decide
        have h4n : 0 < m.pools.length := by omega
        simp only [chk, poolP, ruleO_idx, List.getLast?_nil] at hR
        (simp (config := {contextual := true, maxSteps := 2000000, implicitDefEqProofs := false}) [go_sem, ruleO_idx, SubI, hw0, h4n, hn, hw, h3, h4, h5] <;> grind)
      · have hln : m.pools.length = q.length + 1 + (rest.length + 1) := by rw [← hl]; simp; omega
        have hn : nth (List.map (enPool.av τ) m.pools) (q.length + 1) = (enPool.av τ) x := by rw [← hl]; simp [go_sem]
        have hw : m.pools.length ≤ maxLen → IntKind.i64.wrap (((q.length : Int) + 1) + 1) = ((q.length : Int) + 1) + 1 := fun h => wrap_ok (by omega) (by simp only [maxLen] at h; omega)
        have h3 : (0 : Int) ≤ ((q.length : Int) + 1) := by omega
        have h4 : ((q.length : Int) + 1) < (m.pools.length : Int) := by omega
        have h5 : ¬ (m.pools.length : Int) ≤ ((q.length : Int) + 1) := by omega
        have h6 : nth (List.map (enPool.av τ) m.pools) q.length = (enPool.av τ) y := by rw [← hl]; simp [go_sem]
        have h7 : m.pools.length ≤ maxLen → IntKind.i64.wrap (q.length : Int) = (q.length : Int) := fun h => wrap_ok (by omega) (by simp only [maxLen] at h; omega)
        have h8 : (0 : Int) ≤ (q.length : Int) := by omega
        have h9 : (0 : Int) < ((q.length : Int) + 1) := by omega
        have h10 : (q.length : Int) < (m.pools.length : Int) := by omega
        simp only [chk, poolP, ruleO_idx, last_concat] at hR
        (simp (config := {contextual := true, maxSteps := 2000000, implicitDefEqProofs := false}) [go_sem, ruleO_idx, SubI, hn, hw, h3, h4, h5, h6, h7, h8, h9, h10] <;> grind)

  · rintro pre0 x rest _ hl hlen hR
    rcases List.eq_nil_or_concat pre0 with rfl | ⟨q, y, rfl⟩
    · have hln : m.rules.length = 0 + (rest.length + 1) := by rw [← hl]; simp
      have hn : nth (List.map (enRule.av τ) m.rules) (0) = (enRule.av τ) x := by rw [← hl]; simp [go_sem]
      have hw : m.rules.length ≤ maxLen → IntKind.i64.wrap ((0 : Int) + 1) = (0 : Int) + 1 := fun h => wrap_ok (by omega) (by simp only [maxLen] at h; omega)
      have h3 : (0 : Int) ≤ (0 : Int) := by omega
      have h4 : (0 : Int) < (m.rules.length : Int) := by omega
      have h5 : ¬ (m.rules.length : Int) ≤ (0 : Int) := by omega
      have hw0 : IntKind.i64.wrap 1 = 1 := by decide
      have h4n : 0 < m.rules.length := by omega
      simp only [chk, ruleP, List.getLast?_nil] at hR
      (simp (config := {contextual := true, maxSteps := 2000000, implicitDefEqProofs := false}) [go_sem, ht, SubI, hw0, h4n, hn, hw, h3, h4, h5] <;> grind)
    · have hln : m.rules.length = q.length + 1 + (rest.length + 1) := by rw [← hl]; simp; omega
      have hn : nth (List.map (enRule.av τ) m.rules) (q.length + 1) = (enRule.av τ) x := by rw [← hl]; simp [go_sem]
      have hw : m.rules.length ≤ maxLen → IntKind.i64.wrap (((q.length : Int) + 1) + 1) = ((q.length : Int) + 1) + 1 := fun h => wrap_ok (by omega) (by simp only [maxLen] at h; omega)
      have h3 : (0 : Int) ≤ ((q.length : Int) + 1) := by omega
      have h4 : ((q.length : Int) + 1) < (m.rules.length : Int) := by omega
      have h5 : ¬ (m.rules.length : Int) ≤ ((q.length : Int) + 1) := by omega
      have h6 : nth (List.map (enRule.av τ) m.rules) q.length = (enRule.av τ) y := by rw [← hl]; simp [go_sem]
      have h7 : m.rules.length ≤ maxLen → IntKind.i64.wrap (q.length : Int) = (q.length : Int) := fun h => wrap_ok (by omega) (by simp only [maxLen] at h; omega)
      have h8 : (0 : Int) ≤ (q.length : Int) := by omega
      have h9 : (0 : Int) < ((q.length : Int) + 1) := by omega
      have h10 : (q.length : Int) < (m.rules.length : Int) := by omega
      simp only [chk, ruleP, last_concat] at hR
      (simp (config := {contextual := true, maxSteps := 2000000, implicitDefEqProofs := false}) [go_sem, ht, SubI, hn, hw, h3, h4, h5, h6, h7, h8, h9, h10] <;> grind)
end Go.Ve
namespace Go.Ve
open Go.Proofs Go.RowKit
set_option linter.unusedVariables false
set_option linter.unusedSimpArgs false
set_option maxRecDepth 10000
set_option maxHeartbeats 4000000
end Go.Ve
namespace Go.Ve
open Go.Proofs Go.RowKit Go.Lib Go.Sort Go.Shelf
set_option linter.unusedVariables false
set_option linter.unusedSimpArgs false
set_option maxRecDepth 100000
set_option maxHeartbeats 4000000
def c192 : SCode := (.seq (.reg [⟨(some 3), .assign (.const (.bool false)), none⟩])
(.seq (.reg [⟨(some 4), .move (.tmp 0), none⟩,
    ⟨(some 5), .load 2 (.tmp 1), none⟩,
    ⟨(some 6), .binOp .eql 2 (.tmp 4) (.tmp 5) 2, none⟩,
    ⟨(some 3), .assign (.tmp 6), none⟩])
 .ret))
theorem s192 : slimF Tryz.f192 = some (c192, [.t 3], 7) := by kernel_rfl
theorem o192 : okF [] Tryz.f192 = true := by kernel_rfl
noncomputable def g192 : Fsem := semOf (fun i : Int × Nat × Int => [.int .i64 i.1, .dptr i.2.1 [.int .i64 i.2.2]]) (fun _ => True) (fun _ i => .bool (decide (i.1 = i.2.2)))
@[go_sem] theorem g192_eq {n τ : Nat} {x m : Int} : g192 n [.int .i64 x, .dptr τ [.int .i64 m]] = ⟨True, .bool (decide (x = m))⟩ :=
  semOf_eq (x, τ, m) rfl fun ⟨_, _, _⟩ h => by
    simp at h
    simp [h]
theorem p192 : Pure Tryz.prog 192 g192 := by
  refine semOf_pure fun ⟨x, τ, m⟩ n h2 _ => ?_
  refine SatP.of_body Table.nil hm Tryz.func192 s192 o192 h2 (by simp) ?_
  simp (config := {contextual := true, implicitDefEqProofs := false}) [c192, go_sem]
theorem o149_192 : okF [(192, g192)] Tryz.f149 = true := by kernel_rfl
theorem sat_idx0 {m : Int} : SatM Tryz.prog 2 149 [] [.sl 1 1 [], .fn 192 [.dptr 1 [.int .i64 m]]] [] (.int .i64 (-1)) :=
  indexFunc_ok (E := En.int .i64) (caps := [.dptr 1 [.int .i64 m]]) (p := fun x => decide (x = m)) (l := []) (τ := 1) hm Tryz.func149 s149 o149_192 (by omega) ty_28 (fite_2) p192 (fun c hc => by simp at hc; subst hc; rfl) (fun n τ x => by simp [go_sem]) (by decide)
shelf_lay_g SlLaysH.n10 Slgf 10 at Tryz 182 as delLay
theorem o182 : okF [] Tryz.f182 = true := by kernel_rfl
theorem gives_cl (m x : Int) (b : Addr) (W : World) (hc : W.cell? b = some (.int .i64 m)) : FnGives Tryz.prog 192 #[.pointer (some b)] #[.int .i64 x] (.bool (decide (x = m))) W := by
  show Calls Tryz.prog 192 #[.int .i64 x, .pointer (some b)] W _
  go_enter Tryz.func192, Tryz.ntmps192
  go_wp2
  all_goals (go_ret; exact ⟨by rw [show (decide (x = m)) = (x == m) from by simp [BEq.beq]]; first | rfl | simp_all, 0, rfl⟩)
theorem del_nil (m : Int) (b : Addr) (w : World) (hs : b.spot = none) (hc : w.cell? b = some (.int .i64 m)) :
    Calls Tryz.prog 182 #[.slice none 0 0, .func (.func 192) #[] #[.pointer (some b)]] w fun e w' => e = .returned (.slice none 0 0) ∧ Below w.heap.size w w' := by
  have HI : Calls Tryz.prog 149 #[.slice none 0 0, .func (.func 192) #[] #[.pointer (some b)]] w fun e w' => e = .returned (.int .i64 (-1)) ∧ Below w.heap.size w w' := by
    have hb := World.block_lt_of_cell? w b hc
    have h := (sat_idx0 (m := m)).2 w (fun ρ x => ρ = 1 ∧ x = b.block) (fun _ => none) [.slice none 0 0, .func (.func 192) #[] #[.pointer (some b)]] (by decide) ⟨fun r R hr => by simp at hr, fun r r' g h1 => by obtain ⟨R, h1, _⟩ := h1; simp at h1, fun r g ρ h1 => by obtain ⟨R, h1, _⟩ := h1; simp at h1⟩ (fun ρ x hx => by rw [hx.2]; exact hb) (fun ρ ρ' x h1 h2 => h1.1.trans h2.1.symm) (fun r t cs y q hr => by simp at hr) rfl (fun i x hi => by
      rcases i with _ | _ | i
      · simp only [List.getElem?_cons_zero, Option.some.injEq] at hi
        subst hi
        exact ⟨_, rfl, .data _ _ (.sl0 none 0 1 1), fun q hq => by cases hq⟩
      · simp only [List.getElem?_cons_succ, List.getElem?_cons_zero, Option.some.injEq] at hi
        subst hi
        refine ⟨_, rfl, .data _ _ (.fn _ _ _ (fun _ => .pointer (some b)) rfl (fun i y hy => ?_) (fun i y hy => ?_)), fun q hq => by cases hq with | fn _ _ y _ hy hq => simp at hy; subst hy; cases hq⟩
        · rcases i with _ | i
          · rfl
          · simp at hy
        · rcases i with _ | i
          · simp only [List.getElem?_cons_zero, Option.some.injEq] at hy
            subst hy
            refine .dptr b 1 _ (fun _ => .int .i64 m) hs ⟨rfl, rfl⟩ (fun j y hy => ?_) (fun j y hy => ?_)
            · rcases j with _ | j
              · obtain ⟨x1, x2, x3⟩ := b
                simp only at hs
                subst hs
                exact hc
              · simp at hy
            · rcases j with _ | j
              · simp only [List.getElem?_cons_zero, Option.some.injEq] at hy
                subst hy
                exact .int ..
              · simp at hy
          · simp at hy
      · simp at hi)
    refine Calls.mono h ?_
    rintro e W' ⟨v, D', β', rfl, hM, _, _, hv, _⟩
    rw [rep_int hv]
    exact ⟨rfl, hM.os, hM.tape, hM.output, hM.size, fun x hx => hM.frame x hx fun ⟨r, hr, _⟩ => by obtain ⟨R, h1, _⟩ := hr; simp at h1⟩
  clear hc
  go_enter Tryz.func182, Tryz.ntmps182
  go_wp2_with (go_at_call 149; refine HI.mono ?_; rintro e w' ⟨rfl, hb⟩)
  go_ret
  exact ⟨rfl, hb⟩
theorem sat_del {n τ : Nat} {m : Int} {l : List Int} (hl : l.length ≤ 1048576) : SatM Tryz.prog n 182 [.row 2 1 (l.map (AV.int .i64))] [.osl 0 1 0 l.length, .fn 192 [.dptr τ [.int .i64 m]]] [.row 2 1 ((l.filter fun x => !decide (x = m)).map (AV.int .i64))] (.osl 0 1 0 (l.filter fun x => !decide (x = m)).length) := by
  have hfl : (l.filter fun x => !decide (x = m)).length ≤ l.length := List.length_filter_le _ _
  have hcap : ∀ {W : World} {D : Nat → Nat → Prop} {β : Nat → Option Nat} {vs : List Value}, vs.length = 1 → (∀ (i : Nat) (x : AV), [AV.fn 192 [.dptr τ [.int .i64 m]]][i]? = some x → ∃ v, vs[i]? = some v ∧ Rep W D β v x) →
      ∃ b : Addr, vs = [.func (.func 192) #[] #[.pointer (some b)]] ∧ b.spot = none ∧ D τ b.block ∧ W.cell? b = some (.int .i64 m) := by
    intro W D β vs hvl ha
    obtain ⟨v, h1, h2⟩ := ha 0 _ rfl
    obtain ⟨w0, rfl⟩ : ∃ w0, vs = [w0] := by
      match vs, hvl with
      | [a], _ => exact ⟨a, rfl⟩
    simp only [List.getElem?_cons_zero, Option.some.injEq] at h1
    subst h1
    have key : ∃ ws : Array Value, w0 = .func (.func 192) #[] ws ∧ ws.size = 1 ∧ ∃ u, ws[0]? = some u ∧ Rep W D β u (.dptr τ [.int .i64 m]) := by
      cases h2 with
      | data _ _ hd => cases hd with | fn _ ws _ u hl hu hr => exact ⟨ws, rfl, hl, u 0, hu 0 _ rfl, .data _ _ (hr 0 _ rfl)⟩
      | fn _ ws _ u hl hu hr => exact ⟨ws, rfl, hl, u 0, hu 0 _ rfl, hr 0 _ rfl⟩
    obtain ⟨ws, rfl, hws, u, hu, hru⟩ := key
    cases hru with
    | data _ _ hd =>
    cases hd with
    | dptr b _ _ q hs hD hq hr =>
      have hw : ws = #[.pointer (some b)] := by
        apply Array.ext_getElem?
        intro i
        rcases i with _ | i
        · rw [hu]; rfl
        · rw [Array.getElem?_eq_none (by omega)]; rfl
      subst hw
      refine ⟨b, rfl, hs, hD, ?_⟩
      have h0 := hq 0 _ rfl
      have h1 := hr 0 _ rfl
      generalize q 0 = z at h0 h1
      cases h1
      obtain ⟨x1, x2, x3⟩ := b
      simp only at hs
      subst hs
      exact h0
  have hsz : ((l.filter fun x => !decide (x = m)) ++ List.replicate (l.length - (l.filter fun x => !decide (x = m)).length) (0 : Int)).length = l.length := by simp only [List.length_append, List.length_replicate]; omega
  have h := SatM.of_put (P := Tryz.prog) (f := 182) (n := n) (t := 2) (l := l) (arr := (l.filter fun x => !decide (x = m)) ++ List.replicate (l.length - (l.filter fun x => !decide (x = m)).length) (0 : Int)) (rest := [.fn 192 [.dptr τ [.int .i64 m]]]) (k := some (l.filter fun x => !decide (x = m)).length) (enters_of Tryz.func182 o182) hsz hfl (fun x hx q hq => by simp at hx; subst hx; cases hq with | fn _ _ y _ hy hq => simp at hy; subst hy; cases hq) ?_ ?_
  · have e : (((l.filter fun x => !decide (x = m)) ++ List.replicate (l.length - (l.filter fun x => !decide (x = m)).length) (0 : Int)).take (l.filter fun x => !decide (x = m)).length) = l.filter fun x => !decide (x = m) := List.take_left
    simp only [cutN, cutA, e] at h
    exact h
  · intro W D β vs g cap cur hvl ha hlt hfar hh ht hlc hcp hsz2
    obtain ⟨b, rfl, hs, hD, hc⟩ := hcap hvl ha
    have hbl := hlt τ b.block hD
    have hne : b.block ≠ g := fun e0 => hfar τ (e0 ▸ hD)
    have hgs : g < W.heap.size := (Array.getElem?_eq_some_iff.1 hh).1
    have eg : ∀ args w, (callFunc 192 args).run Tryz.prog w = .ok (.enter 192 args) w := Go.Proofs.enters_of Tryz.func192 (by kernel_rfl) rfl
    have hcon := AnyE.slices_DeleteFunc delLay (Value.int .i64) (fun _ => rfl) (fun x => decide (x = m)) 192 #[.pointer (some b)] eg 0 Tryz.zeroValue2 g 0 cap l.toArray W
      (fun W' x hb' => gives_cl m x b W' ((hb'.cell hbl).trans hc))
      (fun n' os dk x _ => gives_cl m x b _ (by
        unfold sortWorld
        rw [Go.Sort.cell?_grow _ _ _ (by show b.block < (Go.Sort.putRow _ _ _ _ _).heap.size; rw [Go.Sort.size_putRow]; exact hbl), Go.Sort.cell?_putRow_other _ _ g 0 _ _ (Or.inl hne)]
        exact hc)) (holds_of_blockI hh ht) (by simp; omega) (by simpa using hlc)
    refine Calls.mono hcon ?_
    rintro e W' ⟨rfl, q, rfl⟩
    refine ⟨rfl, q, #[], ?_⟩
    rw [Go.Sort.grow_empty]
    rfl
  · intro W D β vs hl0 hvl ha hlt
    subst hl0
    obtain ⟨b, rfl, hs, hD, hc⟩ := hcap hvl ha
    exact del_nil m b W hs hc
end Go.Ve
namespace Go.Ve
open Go.Proofs Go.RowKit Go.Lib Go.Sort Go.Shelf
set_option linter.unusedVariables false
set_option linter.unusedSimpArgs false
set_option maxRecDepth 100000
set_option maxHeartbeats 4000000
def c183 : SCode := (.seq (.reg [⟨(some 2), .assign (.const (.bool false)), none⟩])
(.seq (.reg [⟨(some 3), .move (.tmp 0), none⟩,
    ⟨(some 4), .binOp .lss 2 (.tmp 3) (.const (.int .i64 0)) 2, none⟩,
    ⟨(some 2), .assign (.tmp 4), none⟩])
 .ret))
theorem s183 : slimF Tryz.f183 = some (c183, [.t 2], 5) := by kernel_rfl
theorem o183 : okF [] Tryz.f183 = true := by kernel_rfl
noncomputable def g183 : Fsem := sem1 (En.int .i64) (fun x => True) (fun n x => .bool (decide (x < 0)))
@[go_sem] theorem g183_eq {n : Nat} {x : Int} : g183 n [.int .i64 x] = ⟨True, .bool (decide (x < 0))⟩ := sem1_eq (τ := 0) (E := (En.int .i64))
theorem p183 : Pure Tryz.prog 183 g183 := by
  refine sem1_pure fun τ x n h2 hpre => ?_
  have hT : Table Tryz.prog [] := .nil
  have hn0 : n ≠ 0 := by omega
  refine SatP.of_body hT hm Tryz.func183 s183 o183 h2 (by simp) ?_
  simp (config := {contextual := true, maxSteps := 2000000, implicitDefEqProofs := false}) [c183, go_sem]
theorem o149_183 : okF [(183, g183)] Tryz.f149 = true := by kernel_rfl
theorem sat_idxp : SatM Tryz.prog 2 149 [] [.sl 1 1 [], .fn 183 []] [] (.int .i64 (-1)) :=
  indexFunc_ok (E := En.int .i64) (caps := []) (p := fun x => decide (x < 0)) (l := []) (τ := 1) hm Tryz.func149 s149 o149_183 (by omega) ty_28 (fite_2) p183 (fun c hc => by simp at hc) (fun n τ x => by simp [go_sem]) (by decide)
theorem gives_clp (x : Int) (W : World) : FnGives Tryz.prog 183 #[] #[.int .i64 x] (.bool (decide (x < 0))) W := by
  show Calls Tryz.prog 183 #[.int .i64 x] W _
  go_enter Tryz.func183, Tryz.ntmps183
  go_wp2
  all_goals (go_ret; first | exact ⟨rfl, 0, rfl⟩ | (refine ⟨?_, 0, rfl⟩; simp_all))
theorem delp_nil (w : World) :
    Calls Tryz.prog 182 #[.slice none 0 0, .func (.func 183) #[] #[]] w fun e w' => e = .returned (.slice none 0 0) ∧ Below w.heap.size w w' := by
  have HI : Calls Tryz.prog 149 #[.slice none 0 0, .func (.func 183) #[] #[]] w fun e w' => e = .returned (.int .i64 (-1)) ∧ Below w.heap.size w w' := by
    have h := (sat_idxp).2 w (fun ρ x => False) (fun _ => none) [.slice none 0 0, .func (.func 183) #[] #[]] (by decide) ⟨fun r R hr => by simp at hr, fun r r' g h1 => by obtain ⟨R, h1, _⟩ := h1; simp at h1, fun r g ρ h1 => by obtain ⟨R, h1, _⟩ := h1; simp at h1⟩ (fun ρ x hx => hx.elim) (fun ρ ρ' x h1 h2 => h1.elim) (fun r t cs y q hr => by simp at hr) rfl (fun i x hi => by
      rcases i with _ | _ | i
      · simp only [List.getElem?_cons_zero, Option.some.injEq] at hi
        subst hi
        exact ⟨_, rfl, .data _ _ (.sl0 none 0 1 1), fun q hq => by cases hq⟩
      · simp only [List.getElem?_cons_succ, List.getElem?_cons_zero, Option.some.injEq] at hi
        subst hi
        exact ⟨_, rfl, .data _ _ (.fn _ _ _ (fun _ => .bool false) rfl (fun i y hy => by simp at hy) (fun i y hy => by simp at hy)), fun q hq => by cases hq with | fn _ _ y _ hy hq => simp at hy⟩
      · simp at hi)
    refine Calls.mono h ?_
    rintro e W' ⟨v, D', β', rfl, hM, _, _, hv, _⟩
    rw [rep_int hv]
    exact ⟨rfl, hM.os, hM.tape, hM.output, hM.size, fun x hx => hM.frame x hx fun ⟨r, hr, _⟩ => by obtain ⟨R, h1, _⟩ := hr; simp at h1⟩
  go_enter Tryz.func182, Tryz.ntmps182
  go_wp2_with (go_at_call 149; refine HI.mono ?_; rintro e w' ⟨rfl, hb⟩)
  go_ret
  exact ⟨rfl, hb⟩
theorem sat_delp {n : Nat} {l : List Int} (hl : l.length ≤ 1048576) : SatM Tryz.prog n 182 [.row 2 1 (l.map (AV.int .i64))] [.osl 0 1 0 l.length, .fn 183 []] [.row 2 1 ((l.filter fun x => !decide (x < 0)).map (AV.int .i64))] (.osl 0 1 0 (l.filter fun x => !decide (x < 0)).length) := by
  have hfl : (l.filter fun x => !decide (x < 0)).length ≤ l.length := List.length_filter_le _ _
  have hcap : ∀ {W : World} {D : Nat → Nat → Prop} {β : Nat → Option Nat} {vs : List Value}, vs.length = 1 → (∀ (i : Nat) (x : AV), [AV.fn 183 []][i]? = some x → ∃ v, vs[i]? = some v ∧ Rep W D β v x) →
      vs = [.func (.func 183) #[] #[]] := by
    intro W D β vs hvl ha
    obtain ⟨v, h1, h2⟩ := ha 0 _ rfl
    obtain ⟨w0, rfl⟩ : ∃ w0, vs = [w0] := by
      match vs, hvl with
      | [a], _ => exact ⟨a, rfl⟩
    simp only [List.getElem?_cons_zero, Option.some.injEq] at h1
    subst h1
    have key : ∃ ws : Array Value, w0 = .func (.func 183) #[] ws ∧ ws.size = 0 := by
      cases h2 with
      | data _ _ hd => cases hd with | fn _ ws _ u hl hu hr => exact ⟨ws, rfl, hl⟩
      | fn _ ws _ u hl hu hr => exact ⟨ws, rfl, hl⟩
    obtain ⟨ws, rfl, hws⟩ := key
    rw [Array.eq_empty_of_size_eq_zero hws]
  have hsz : ((l.filter fun x => !decide (x < 0)) ++ List.replicate (l.length - (l.filter fun x => !decide (x < 0)).length) (0 : Int)).length = l.length := by simp only [List.length_append, List.length_replicate]; omega
  have h := SatM.of_put (P := Tryz.prog) (f := 182) (n := n) (t := 2) (l := l) (arr := (l.filter fun x => !decide (x < 0)) ++ List.replicate (l.length - (l.filter fun x => !decide (x < 0)).length) (0 : Int)) (rest := [.fn 183 []]) (k := some (l.filter fun x => !decide (x < 0)).length) (enters_of Tryz.func182 o182) hsz hfl (fun x hx q hq => by simp at hx; subst hx; cases hq with | fn _ _ y _ hy hq => simp at hy) ?_ ?_
  · have e : (((l.filter fun x => !decide (x < 0)) ++ List.replicate (l.length - (l.filter fun x => !decide (x < 0)).length) (0 : Int)).take (l.filter fun x => !decide (x < 0)).length) = (l.filter fun x => !decide (x < 0)) := List.take_left
    simp only [cutN, cutA, e] at h
    exact h
  · intro W D β vs g cap cur hvl ha hlt hfar hh ht hlc hcp hsz2
    obtain rfl := hcap hvl ha
    have eg : ∀ args w, (callFunc 183 args).run Tryz.prog w = .ok (.enter 183 args) w := Go.Proofs.enters_of Tryz.func183 (by kernel_rfl) rfl
    have hcon := AnyE.slices_DeleteFunc delLay (Value.int .i64) (fun _ => rfl) (fun x => decide (x < 0)) 183 #[] eg 0 Tryz.zeroValue2 g 0 cap l.toArray W
      (fun W' x hb' => gives_clp x W')
      (fun n' os dk x _ => gives_clp x _) (holds_of_blockI hh ht) (by simp; omega) (by simpa using hlc)
    refine Calls.mono hcon ?_
    rintro e W' ⟨rfl, q, rfl⟩
    refine ⟨rfl, q, #[], ?_⟩
    rw [Go.Sort.grow_empty]
    rfl
  · intro W D β vs hl0 hvl ha hlt
    subst hl0
    obtain rfl := hcap hvl ha
    exact delp_nil W
end Go.Ve
namespace Go.Ve
open Go.Proofs Go.RowKit
set_option linter.unusedVariables false
set_option linter.unusedSimpArgs false
set_option maxRecDepth 10000
set_option maxHeartbeats 4000000
def riseP (lo hi : Int) (o : Option Int) (x : Int) : Bool := btw x lo hi && incP o x
def rises (lo hi : Int) (l : List Int) : Bool := chk (riseP lo hi) none l
theorem chk_imp {α : Type} {p q : Option α → α → Bool} (h : ∀ o x, p o x = true → q o x = true) : ∀ {l : List α} {o : Option α}, chk p o l = true → chk q o l = true
  | [], _, _ => rfl
  | x :: l, o, hc => by
    simp only [chk, Bool.and_eq_true] at hc ⊢
    exact ⟨h o x hc.1, chk_imp h hc.2⟩
theorem nodes_dev {t : Tree} {l : List Int} (h : nodesOk t l = true) : ∀ x ∈ l, 0 ≤ devI t x := by
  simp only [nodesOk, Bool.and_eq_true, Bool.not_eq_true', List.any_eq_false, decide_eq_true_eq] at h
  intro x hx
  have := h.2 x hx
  omega
theorem nodes_rise {t : Tree} (ht : treeOk t = true) {l : List Int} (h : nodesOk t l = true) : rises 0 15 l = true := by
  have h1 : chk (nodeP t) none l = true := by rw [nodes_chk]; exact h
  refine chk_imp (fun o x hx => ?_) h1
  simp only [nodeP, Bool.and_eq_true, Bool.not_eq_true', decide_eq_false_iff_not] at hx
  have h2 := okN_lt ht (x := x) (.inr (by omega))
  have h3 : 0 ≤ x := by
    rcases Int.lt_or_le x 0 with hn | hn
    · exact absurd (show 0 ≤ devI t x by omega) (devI_neg ht hn)
    · exact hn
  simp only [riseP, btw, Bool.and_eq_true, decide_eq_true_eq]
  exact ⟨⟨h3, h2.2.1⟩, hx.2⟩
def hasPg (m : Mp) (g : Pg) : Bool := match poolO m g.pool with
  | none => false
  | some p => btw g.no 0 (IntKind.i64.wrap (p.pgs - 1))
def dnI (m : Mp) (x : Int) : Int := if has m.up x = true then x else -1
def plcR (m : Mp) (g : Pg) : List Int := match poolO m g.pool with
  | none => []
  | some p => match ruleO m p.rule with
    | none => []
    | some r => placeR m.tree r (mixI [g.pool, g.no]) (p.code.k + p.code.m) m.out
def actR (m : Mp) (g : Pg) : List Int := (plcR m g).map (dnI m)
theorem rule_ok {m : Mp} (h : rulesOk m = true) {id : Int} {r : Rule} (hr : ruleO m id = some r) : ruleOk m.tree r = true := by
  simp only [rulesOk, Bool.and_eq_true] at h
  obtain ⟨o, ho⟩ := chk_mem h.1 r (List.mem_of_find?_eq_some hr)
  simp only [ruleP, Bool.and_eq_true] at ho
  exact ho.1
theorem pool_ok {m : Mp} (h : poolsOk m = true) {id : Int} {p : Pool} (hp : poolO m id = some p) : poolOk p = true ∧ (ruleO m p.rule).isSome = true := by
  simp only [poolsOk, Bool.and_eq_true] at h
  obtain ⟨o, ho⟩ := chk_mem h.1 p (List.mem_of_find?_eq_some hp)
  simp only [poolP, Bool.and_eq_true] at ho
  exact ⟨ho.1.1, ho.2⟩
theorem pg_facts {m : Mp} {g : Pg} (hm : mapOk m = true) (hg : hasPg m g = true) : ∃ p r, poolO m g.pool = some p ∧ ruleO m p.rule = some r ∧ treeOk m.tree = true ∧ ruleOk m.tree r = true ∧ 1 ≤ p.code.k + p.code.m ∧ p.code.k + p.code.m ≤ 7 ∧ IntKind.i64.wrap (p.code.k + p.code.m) = p.code.k + p.code.m ∧ (∀ x ∈ m.out, 0 ≤ x) ∧ (∀ x ∈ m.up, 0 ≤ x) ∧ rises 0 15 m.out = true ∧ actR m g = (placeR m.tree r (mixI [g.pool, g.no]) (p.code.k + p.code.m) m.out).map (dnI m) ∧ (p.min : Int) ≤ 7 := by
  simp only [mapOk, Bool.and_eq_true] at hm
  obtain ⟨⟨⟨⟨⟨⟨_, _⟩, ht⟩, hr⟩, hp⟩, hu⟩, ho⟩ := hm
  unfold hasPg at hg
  cases hpo : poolO m g.pool with
  | none => rw [hpo] at hg; cases hg
  | some p =>
    obtain ⟨h1, h2⟩ := pool_ok hp hpo
    obtain ⟨r, hro⟩ := Option.isSome_iff_exists.1 h2
    have h3 := rule_ok hr hro
    simp only [poolOk, codeOk, btw, Bool.and_eq_true, decide_eq_true_eq] at h1
    have hpos : ∀ l : List Int, nodesOk m.tree l = true → ∀ x ∈ l, 0 ≤ x := fun l hl x hx => by
      have hd := nodes_dev hl x hx
      rcases Int.lt_or_le x 0 with hn | hn
      · exact absurd hd (devI_neg ht hn)
      · exact hn
    refine ⟨p, r, rfl, hro, ht, h3, by omega, by omega, wrap_ok (by omega) (by omega), hpos _ ho, hpos _ hu, nodes_rise ht ho, ?_, by omega⟩
    simp only [actR, plcR, hpo, hro]
theorem plc_in {m : Mp} {g : Pg} (hm : mapOk m = true) (hg : hasPg m g = true) : ∀ x ∈ actR m g, x = -1 ∨ 0 ≤ x := by
  obtain ⟨p, r, _, _, ht, hr, _, _, _, _, hu, _, e, _⟩ := pg_facts hm hg
  intro x hx
  rw [e] at hx
  obtain ⟨y, _, rfl⟩ := List.mem_map.1 hx
  unfold dnI
  split
  · rename_i h
    exact .inr (hu y (has_iff.1 h))
  · exact .inl rfl
theorem act_len {m : Mp} {g : Pg} (hm : mapOk m = true) (hg : hasPg m g = true) : (actR m g).length ≤ 7 := by
  obtain ⟨p, r, _, _, ht, hr, h1, h7, _, _, hu, _, e, _⟩ := pg_facts hm hg
  rw [e, List.length_map, placeR_len]
  omega
end Go.Ve
namespace Go.Ve
open Go.Proofs Go.RowKit
set_option linter.unusedVariables false
set_option linter.unusedSimpArgs false
set_option maxRecDepth 10000
set_option maxHeartbeats 4000000
@[go_sem] theorem itms_len {t : Tree} {l : List Int} : (itms t l).length = l.length := by simp [itms]
theorem itms_one {t : Tree} {l : List Int} {x : Int} : itms t (l ++ [x]) = itms t l ++ [⟨x, wt t x⟩] := by simp [itms]
@[go_sem] theorem itms_take {t : Tree} {l : List Int} : List.take l.length ((itms t l).map (enItm.av 0)) = (itms t l).map (enItm.av 0) := List.take_of_length_le (by simp [itms])
def c222 : SCode := (.seq (.reg [⟨(some 4), .box 39 (.tmp 0), none⟩,
   ⟨(some 8), .assign (.const (.int .i64 0)), none⟩,
   ⟨(some 9), .assign (.const (.bool false)), none⟩])
(.seq (.reg [⟨(some 14), .load 39 (.tmp 4), none⟩,
    ⟨(some 15), .move (.tmp 1), none⟩,
    ⟨(some 16), .call ⟨(.value (.func 195)), #[(.tmp 14), (.tmp 15)], #[39, 2]⟩, none⟩,
    ⟨(some 10), .assign (.tmp 16), none⟩])
 (.seq (.seq (.reg [⟨(some 17), .move (.tmp 10), none⟩,
      ⟨(some 18), .binOp .eql 209 (.tmp 17) (.const (.pointer none)) 209, none⟩])
   (.cond (.tmp 18) (.seq (.reg [⟨(some 8), .assign (.const (.int .i64 0)), none⟩,
        ⟨(some 9), .assign (.const (.bool false)), none⟩])
     .ret)
    .skip))
  (.seq (.reg [⟨(some 11), .assign (.const (.slice none 0 0)), none⟩])
   (.seq (.seq (.reg [⟨(some 19), .move (.tmp 10), none⟩,
        ⟨(some 20), .nilCheck (.tmp 19), none⟩,
        ⟨(some 21), .fieldAddr 125 (.tmp 20) 2, none⟩,
        ⟨(some 22), .load 28 (.tmp 21), none⟩,
        ⟨(some 23), .call ⟨(.builtin .len), #[(.tmp 22)], #[28]⟩, none⟩,
        ⟨(some 24), .move (.const (.int .i64 0)), none⟩])
     (.block 0 (.loop (.seq (.reg [⟨(some 25), .binOp .lss 3 (.tmp 24) (.tmp 23) 3, none⟩])
        (.seq (.cond (.tmp 25) .skip
          (.exit 0))
         (.seq (.block 1 (.seq (.reg [⟨(some 26), .indexAddr 28 (.tmp 22) (.tmp 24), none⟩,
               ⟨(some 27), .load 2 (.tmp 26), none⟩,
               ⟨(some 13), .assign (.tmp 27), none⟩])
            (.reg [⟨(some 28), .move (.tmp 11), none⟩,
               ⟨(some 29), .move (.tmp 13), none⟩,
               ⟨(some 30), .load 39 (.tmp 4), none⟩,
               ⟨(some 31), .move (.tmp 13), none⟩,
               ⟨(some 32), .call ⟨(.value (.func 166)), #[(.tmp 30), (.tmp 31)], #[39, 2]⟩, none⟩,
               ⟨(some 33), .build 244 #[(0, (.tmp 29)), (1, (.tmp 32))], none⟩,
               ⟨(some 34), .buildSlice 243 1 #[(0, (.tmp 33))], none⟩,
               ⟨(some 35), .call ⟨(.builtin .append), #[(.tmp 28), (.tmp 34)], #[243, 243]⟩, none⟩,
               ⟨(some 11), .assign (.tmp 35), none⟩])))
          (.reg [⟨(some 36), .binOp .add 3 (.tmp 24) (.const (.int .i64 1)) 3, none⟩,
             ⟨(some 24), .move (.tmp 36), none⟩])))))))
    (.seq (.reg [⟨(some 37), .move (.tmp 11), none⟩,
        ⟨(some 38), .move (.tmp 2), none⟩,
        ⟨(some 39), .move (.tmp 3), none⟩,
        ⟨(some 40), .call ⟨(.value (.func 230)), #[(.tmp 37), (.tmp 38), (.tmp 39)], #[243, 2, 2]⟩, none⟩,
        ⟨(some 41), .extract (.tmp 40) 0, none⟩,
        ⟨(some 42), .extract (.tmp 40) 1, none⟩,
        ⟨(some 8), .assign (.tmp 41), none⟩,
        ⟨(some 9), .assign (.tmp 42), none⟩])
     .ret))))))
theorem s222 : slimF Tryz.f222 = some (c222, [.t 8, .t 9], 43) := by kernel_rfl
theorem o222 : okF [(195, g195), (166, g166), (230, g230)] Tryz.f222 = true := by kernel_rfl
noncomputable def g222 : Fsem := semT4 enTree (En.int .i64) (En.int .i64) (En.int .i64) (fun τ t id seed try_ => τ ≠ 0 ∧ treeOk t = true) (fun n τ t id seed try_ => .tup [.int .i64 (chooseR t id seed try_).1, .bool (chooseR t id seed try_).2])
@[go_sem] theorem g222_eq {n τ : Nat} {t : Tree} {id : Int} {seed : Int} {try_ : Int} : g222 n [.agg [.sl τ 2 (t.devices.map (enDev.av τ)), .sl τ 3 (t.buckets.map (enBkt.av τ))], .int .i64 id, .int .i64 seed, .int .i64 try_] = ⟨τ ≠ 0 ∧ treeOk t = true, .tup [.int .i64 (chooseR t id seed try_).1, .bool (chooseR t id seed try_).2]⟩ := semT4_eq (τ' := 0) (τ'' := 0) (τ3 := 0) (E := enTree) (F := (En.int .i64)) (G := (En.int .i64)) (H := (En.int .i64)) (seen_Tree)
theorem p222 : Pure Tryz.prog 222 g222 := by
  refine semT4_pure fun τ τ' τ'' τ3 t id seed try_ n h2 hpre => ?_
  have hT : Table Tryz.prog [(195, g195), (166, g166), (230, g230)] := (.cons p195 (.cons p166 (.cons p230 .nil)))
  have hn0 : n ≠ 0 := by omega
  refine SatP.of_body hT hm Tryz.func222 s222 o222 h2 (by simp) ?_
  obtain ⟨hp, ht⟩ := hpre
  cases hb : bktO t id with
  | none =>
    have hbn := bkt_no hb
    simp only [chooseR, hb]
    simp (config := {contextual := true, maxSteps := 2000000, implicitDefEqProofs := false}) [c222, go_sem, hb, hbn, hp]
  | some b =>
    have hs := kind_some ht hb
    have h8 := items8 ht hs.2.2.2.1
    have hwt := itms_wt ht (l := b.items)
    obtain ⟨a, ha, hal, han⟩ := bkt_at (τ := τ) hb
    have ha0 : (0 : Int) ≤ a := by omega
    have ha1 : ¬ (a : Int) < 0 := by omega
    have ha2 : (a : Int) < (t.buckets.length : Int) := by omega
    simp only [chooseR, hb]
    simp (config := {contextual := true, maxSteps := 2000000, implicitDefEqProofs := false}) [c222, go_sem, hb, hp]
    intro hL
    refine VW_listKE [(11, 244, 2)] [4, 11] hT h2 hm b.items [2, 3, 4, 22, 23] (fun pre post (u0 : Unit) => [.box 39 [.sl τ 2 (t.devices.map (enDev.av τ)), .sl τ 3 (t.buckets.map (enBkt.av τ))], .row 244 2 ((itms t pre).map (enItm.av 0))]) (fun pre post (u0 : Unit) => [(24, .int .i64 pre.length), (11, .osl 1 2 0 pre.length)]) (fun pre post (u0 : Unit) => True) () ?_ ?_ ?_ ?_
    · trivial
    · simp only [subE_go, subR_go, anOf_nil, anOf_cons, tmOk_nil, tmOk_cons]
      simp [go_sem, vivV, itms, subE_go, subR_go, anOf_nil, anOf_cons, tmOk_nil, tmOk_cons]
    · rintro u0 hR
      simp (config := {contextual := true, maxSteps := 2000000, implicitDefEqProofs := false}) [go_sem, hwt]
    · rintro pre x post u0 hl hlen hR
      have hln : b.items.length = pre.length + (post.length + 1) := by rw [← hl]; simp
      have hn : nth (List.map (AV.int .i64) b.items) (pre.length) = (AV.int .i64) x := by rw [← hl]; simp [go_sem]
      have hw : b.items.length ≤ maxLen → IntKind.i64.wrap ((pre.length : Int) + 1) = (pre.length : Int) + 1 := fun h => wrap_ok (by omega) (by simp only [maxLen] at h; omega)
      have h3 : (0 : Int) ≤ (pre.length : Int) := by omega
      have h4 : (pre.length : Int) < (b.items.length : Int) := by omega
      have h5 : ¬ (b.items.length : Int) ≤ (pre.length : Int) := by omega
      have hx : x ∈ b.items := by rw [← hl]; simp
      have hkx := (kind_item ht hs.2.2.2.1 hx).1
      have hm : (itms t pre).map (enItm.av 0) ++ [.agg [.int .i64 x, .int .i64 (wt t x)]] = (itms t (pre ++ [x])).map (enItm.av 0) := by rw [itms_one]; simp [go_sem]
      simp (config := {contextual := true, maxSteps := 2000000, implicitDefEqProofs := false}) [go_sem, hn, hw, h3, h4, h5, hp, ht, hkx, hL]
      simp only [subE_go, subR_go, anOf_nil, anOf_cons, tmOk_nil, tmOk_cons]
      simp (config := {contextual := true, maxSteps := 2000000, implicitDefEqProofs := false}) [go_sem, subE_go, subR_go, anOf_nil, anOf_cons, tmOk_nil, tmOk_cons, hm] <;> omega
def c234 : SCode := (.seq (.reg [⟨(some 4), .box 39 (.tmp 0), none⟩,
   ⟨(some 8), .assign (.const (.int .i64 0)), none⟩,
   ⟨(some 9), .assign (.const (.bool false)), none⟩])
(.seq (.reg [⟨(some 14), .load 39 (.tmp 4), none⟩,
    ⟨(some 15), .move (.tmp 1), none⟩,
    ⟨(some 16), .call ⟨(.value (.func 153)), #[(.tmp 14), (.tmp 15)], #[39, 2]⟩, none⟩,
    ⟨(some 10), .assign (.tmp 16), none⟩])
 (.seq (.seq (.reg [⟨(some 17), .move (.tmp 10), none⟩,
      ⟨(some 18), .binOp .lss 3 (.tmp 17) (.const (.int .i64 0)) 3, none⟩])
   (.cond (.tmp 18) (.seq (.reg [⟨(some 8), .assign (.const (.int .i64 0)), none⟩,
        ⟨(some 9), .assign (.const (.bool false)), none⟩])
     .ret)
    .skip))
  (.seq (.reg [⟨(some 19), .buildSlice 243 0 #[], none⟩,
      ⟨(some 11), .assign (.tmp 19), none⟩])
   (.seq (.seq (.reg [⟨(some 12), .assign (.const (.int .i64 0)), none⟩])
     (.block 0 (.loop (.seq (.seq (.reg [⟨(some 20), .move (.tmp 12), none⟩,
            ⟨(some 21), .fieldAddr 39 (.tmp 4) 1, none⟩,
            ⟨(some 22), .load 37 (.tmp 21), none⟩,
            ⟨(some 23), .move (.tmp 10), none⟩,
            ⟨(some 24), .indexAddr 37 (.tmp 22) (.tmp 23), none⟩,
            ⟨(some 25), .fieldAddr 125 (.tmp 24) 2, none⟩,
            ⟨(some 26), .load 28 (.tmp 25), none⟩,
            ⟨(some 27), .call ⟨(.builtin .len), #[(.tmp 26)], #[28]⟩, none⟩,
            ⟨(some 28), .binOp .lss 3 (.tmp 20) (.tmp 27) 3, none⟩])
         (.cond (.tmp 28) .skip
          (.exit 0)))
        (.seq (.block 1 (.seq (.reg [⟨(some 31), .fieldAddr 39 (.tmp 4) 1, none⟩,
              ⟨(some 32), .load 37 (.tmp 31), none⟩,
              ⟨(some 33), .move (.tmp 10), none⟩,
              ⟨(some 34), .indexAddr 37 (.tmp 32) (.tmp 33), none⟩,
              ⟨(some 35), .fieldAddr 125 (.tmp 34) 2, none⟩,
              ⟨(some 36), .load 28 (.tmp 35), none⟩,
              ⟨(some 37), .move (.tmp 12), none⟩,
              ⟨(some 38), .indexAddr 28 (.tmp 36) (.tmp 37), none⟩,
              ⟨(some 39), .load 2 (.tmp 38), none⟩,
              ⟨(some 13), .assign (.tmp 39), none⟩])
           (.reg [⟨(some 40), .move (.tmp 11), none⟩,
              ⟨(some 41), .move (.tmp 13), none⟩,
              ⟨(some 42), .load 39 (.tmp 4), none⟩,
              ⟨(some 43), .move (.tmp 13), none⟩,
              ⟨(some 44), .call ⟨(.value (.func 236)), #[(.tmp 42), (.tmp 43)], #[39, 2]⟩, none⟩,
              ⟨(some 45), .build 244 #[(0, (.tmp 41)), (1, (.tmp 44))], none⟩,
              ⟨(some 46), .buildSlice 243 1 #[(0, (.tmp 45))], none⟩,
              ⟨(some 47), .call ⟨(.builtin .append), #[(.tmp 40), (.tmp 46)], #[243, 243]⟩, none⟩,
              ⟨(some 11), .assign (.tmp 47), none⟩])))
         (.reg [⟨(some 29), .move (.tmp 12), none⟩,
            ⟨(some 30), .binOp .add 3 (.tmp 29) (.const (.int .i64 1)) 3, none⟩,
            ⟨(some 12), .assign (.tmp 30), none⟩]))))))
    (.seq (.reg [⟨(some 48), .move (.tmp 11), none⟩,
        ⟨(some 49), .move (.tmp 2), none⟩,
        ⟨(some 50), .move (.tmp 3), none⟩,
        ⟨(some 51), .call ⟨(.value (.func 237)), #[(.tmp 48), (.tmp 49), (.tmp 50)], #[243, 2, 2]⟩, none⟩,
        ⟨(some 52), .extract (.tmp 51) 0, none⟩,
        ⟨(some 53), .extract (.tmp 51) 1, none⟩,
        ⟨(some 8), .assign (.tmp 52), none⟩,
        ⟨(some 9), .assign (.tmp 53), none⟩])
     .ret))))))
theorem s234 : slimF Tryz.f234 = some (c234, [.t 8, .t 9], 54) := by kernel_rfl
theorem o234 : okF [(153, g153), (236, g236), (237, g237)] Tryz.f234 = true := by kernel_rfl
noncomputable def g234 : Fsem := semT4 enTree (En.int .i64) (En.int .i64) (En.int .i64) (fun τ t id seed try_ => τ ≠ 0 ∧ treeOk t = true) (fun n τ t id seed try_ => .tup [.int .i64 (chooseR t id seed try_).1, .bool (chooseR t id seed try_).2])
@[go_sem] theorem g234_eq {n τ : Nat} {t : Tree} {id : Int} {seed : Int} {try_ : Int} : g234 n [.agg [.sl τ 2 (t.devices.map (enDev.av τ)), .sl τ 3 (t.buckets.map (enBkt.av τ))], .int .i64 id, .int .i64 seed, .int .i64 try_] = ⟨τ ≠ 0 ∧ treeOk t = true, .tup [.int .i64 (chooseR t id seed try_).1, .bool (chooseR t id seed try_).2]⟩ := semT4_eq (τ' := 0) (τ'' := 0) (τ3 := 0) (E := enTree) (F := (En.int .i64)) (G := (En.int .i64)) (H := (En.int .i64)) (seen_Tree)
theorem p234 : Pure Tryz.prog 234 g234 := by
  refine semT4_pure fun τ τ' τ'' τ3 t id seed try_ n h2 hpre => ?_
  have hT : Table Tryz.prog [(153, g153), (236, g236), (237, g237)] := (.cons p153 (.cons p236 (.cons p237 .nil)))
  have hn0 : n ≠ 0 := by omega
  refine SatP.of_body hT hm Tryz.func234 s234 o234 h2 (by simp) ?_
  obtain ⟨hp, ht⟩ := hpre
  cases hb : bktO t id with
  | none =>
    have hbn := bkt_no hb
    simp only [chooseR, hb]
    simp (config := {contextual := true, maxSteps := 2000000, implicitDefEqProofs := false}) [c234, go_sem, hb, hbn, hp]
  | some b =>
    have hs := kind_some ht hb
    have h8 := items8 ht hs.2.2.2.1
    have hwt := itms_wt ht (l := b.items)
    obtain ⟨a, ha, hal, han⟩ := bkt_at (τ := τ) hb
    have ha0 : (0 : Int) ≤ a := by omega
    have ha1 : ¬ (a : Int) < 0 := by omega
    have ha2 : (a : Int) < (t.buckets.length : Int) := by omega
    simp only [chooseR, hb]
    simp (config := {contextual := true, maxSteps := 2000000, implicitDefEqProofs := false}) [c234, go_sem, hb, hp, ha, ha1]
    refine VW_listKE [] [4, 11] hT h2 hm b.items [2, 3, 4, 10] (fun pre post (u0 : Unit) => [.box 39 [.sl τ 2 (t.devices.map (enDev.av τ)), .sl τ 3 (t.buckets.map (enBkt.av τ))], .row 244 2 ((itms t pre).map (enItm.av 0))]) (fun pre post (u0 : Unit) => [(12, .int .i64 pre.length), (11, .osl 1 2 0 pre.length)]) (fun pre post (u0 : Unit) => True) () ?_ ?_ ?_ ?_
    · trivial
    · simp only [subE_go, subR_go, anOf_nil, anOf_cons, tmOk_nil, tmOk_cons]
      simp [go_sem, vivV, itms, subE_go, subR_go, anOf_nil, anOf_cons, tmOk_nil, tmOk_cons]
    · rintro u0 hR
      simp (config := {contextual := true, maxSteps := 2000000, implicitDefEqProofs := false}) [go_sem, hwt, ha0, ha2, hal, han]
    · rintro pre x post u0 hl hlen hR
      have hln : b.items.length = pre.length + (post.length + 1) := by rw [← hl]; simp
      have hn : nth (List.map (AV.int .i64) b.items) (pre.length) = (AV.int .i64) x := by rw [← hl]; simp [go_sem]
      have hw : b.items.length ≤ maxLen → IntKind.i64.wrap ((pre.length : Int) + 1) = (pre.length : Int) + 1 := fun h => wrap_ok (by omega) (by simp only [maxLen] at h; omega)
      have h3 : (0 : Int) ≤ (pre.length : Int) := by omega
      have h4 : (pre.length : Int) < (b.items.length : Int) := by omega
      have h5 : ¬ (b.items.length : Int) ≤ (pre.length : Int) := by omega
      have hx : x ∈ b.items := by rw [← hl]; simp
      have hkx := (kind_item ht hs.2.2.2.1 hx).1
      have hm : (itms t pre).map (enItm.av 0) ++ [.agg [.int .i64 x, .int .i64 (wt t x)]] = (itms t (pre ++ [x])).map (enItm.av 0) := by rw [itms_one]; simp [go_sem]
      simp (config := {contextual := true, maxSteps := 2000000, implicitDefEqProofs := false}) [go_sem, hn, hw, h3, h4, h5, hp, ht, hkx, ha0, ha2, hal, han]
      simp only [subE_go, subR_go, anOf_nil, anOf_cons, tmOk_nil, tmOk_cons]
      simp (config := {contextual := true, maxSteps := 2000000, implicitDefEqProofs := false}) [go_sem, subE_go, subR_go, anOf_nil, anOf_cons, tmOk_nil, tmOk_cons, hm] <;> omega
end Go.Ve
namespace Go.Ve
open Go.Proofs Go.RowKit
set_option linter.unusedVariables false
set_option linter.unusedSimpArgs false
set_option maxRecDepth 10000
set_option maxHeartbeats 4000000
def c205 : SCode := (.seq (.reg [⟨(some 5), .box 39 (.tmp 0), none⟩,
   ⟨(some 10), .assign (.const (.int .i64 0)), none⟩,
   ⟨(some 11), .assign (.const (.bool false)), none⟩])
(.seq (.reg [⟨(some 13), .load 39 (.tmp 5), none⟩,
    ⟨(some 14), .move (.tmp 1), none⟩,
    ⟨(some 15), .call ⟨(.value (.func 158)), #[(.tmp 13), (.tmp 14)], #[39, 2]⟩, none⟩,
    ⟨(some 16), .binOp .geq 2 (.tmp 15) (.const (.int .i64 0)) 2, none⟩,
    ⟨(some 12), .assign (.tmp 16), none⟩])
 (.seq (.block 0 (.loop (.seq (.seq (.reg [⟨(some 17), .move (.tmp 12), none⟩,
         ⟨(some 18), .move (.tmp 17), none⟩,
         ⟨(some 19), .load 39 (.tmp 5), (some (18, true))⟩,
         ⟨(some 20), .move (.tmp 1), (some (18, true))⟩,
         ⟨(some 21), .call ⟨(.value (.func 158)), #[(.tmp 19), (.tmp 20)], #[39, 2]⟩, (some (18, true))⟩,
         ⟨(some 22), .move (.tmp 2), (some (18, true))⟩,
         ⟨(some 23), .binOp .neq 2 (.tmp 21) (.tmp 22) 2, (some (18, true))⟩,
         ⟨(some 24), .pick (.tmp 18) (.tmp 23) (.const (.bool false)), none⟩])
      (.cond (.tmp 24) .skip
       (.exit 0)))
     (.block 1 (.reg [⟨(some 26), .load 39 (.tmp 5), none⟩,
         ⟨(some 27), .move (.tmp 1), none⟩,
         ⟨(some 28), .move (.tmp 3), none⟩,
         ⟨(some 29), .move (.tmp 4), none⟩,
         ⟨(some 30), .call ⟨(.value (.func 222)), #[(.tmp 26), (.tmp 27), (.tmp 28), (.tmp 29)], #[39, 2, 2, 2]⟩, none⟩,
         ⟨(some 25), .move (.tmp 30), none⟩,
         ⟨(some 31), .extract (.tmp 25) 0, none⟩,
         ⟨(some 32), .extract (.tmp 25) 1, none⟩,
         ⟨(some 1), .assign (.tmp 31), none⟩,
         ⟨(some 12), .assign (.tmp 32), none⟩])))))
  (.seq (.reg [⟨(some 33), .move (.tmp 1), none⟩,
      ⟨(some 34), .move (.tmp 12), none⟩,
      ⟨(some 10), .assign (.tmp 33), none⟩,
      ⟨(some 11), .assign (.tmp 34), none⟩])
   .ret))))
theorem s205 : slimF Tryz.f205 = some (c205, [.t 10, .t 11], 35) := by kernel_rfl
theorem o205 : okF [(158, g158), (222, g222)] Tryz.f205 = true := by kernel_rfl
noncomputable def g205 : Fsem := semT5 enTree (En.int .i64) (En.int .i64) (En.int .i64) (En.int .i64) (fun τ t id kind seed try_ => τ ≠ 0 ∧ treeOk t = true ∧ 0 ≤ kindOf t id) (fun n τ t id kind seed try_ => .tup [.int .i64 (desc t kind seed try_ id).1, .bool (desc t kind seed try_ id).2])
@[go_sem] theorem g205_eq {n τ : Nat} {t : Tree} {id : Int} {kind : Int} {seed : Int} {try_ : Int} : g205 n [.agg [.sl τ 2 (t.devices.map (enDev.av τ)), .sl τ 3 (t.buckets.map (enBkt.av τ))], .int .i64 id, .int .i64 kind, .int .i64 seed, .int .i64 try_] = ⟨τ ≠ 0 ∧ treeOk t = true ∧ 0 ≤ kindOf t id, .tup [.int .i64 (desc t kind seed try_ id).1, .bool (desc t kind seed try_ id).2]⟩ := semT5_eq (τ' := 0) (τ'' := 0) (τ3 := 0) (τ4 := 0) (E := enTree) (F := (En.int .i64)) (G := (En.int .i64)) (H := (En.int .i64)) (J := (En.int .i64)) (seen_Tree)
theorem p205 : Pure Tryz.prog 205 g205 := by
  refine semT5_pure fun τ τ' τ'' τ3 τ4 t id kind seed try_ n h2 hpre => ?_
  have hT : Table Tryz.prog [(158, g158), (222, g222)] := (.cons p158 (.cons p222 .nil))
  have hn0 : n ≠ 0 := by omega
  refine SatP.of_body hT hm Tryz.func205 s205 o205 h2 (by simp) ?_
  obtain ⟨hp, ht, hk⟩ := hpre
  have hk3 := (kind_in ht id).2
  generalize hr : desc t kind seed try_ id = r
  unfold desc at hr
  simp (config := {contextual := true, maxSteps := 2000000, implicitDefEqProofs := false}) [c205, go_sem, hp, hk]
  refine VW_listK hT h2 hm (List.replicate 5 ()) [2, 3, 4, 5] (fun pre post (b : Int × Bool) => [(1, .int .i64 b.1), (12, .bool b.2)]) (fun pre post (b : Int × Bool) => (b.2 = false → b.1 = 0 ∧ r = (0, false)) ∧ (b.2 = true → 0 ≤ kindOf t b.1 ∧ kindOf t b.1 < (post.length : Int) ∧ descF t kind seed try_ post.length b.1 = r)) (id, true) ?_ ?_ ?_ ?_
  · exact ⟨fun h => (by cases h), fun _ => ⟨hk, by simp; omega, by simpa using hr⟩⟩
  · simp [SubI, go_sem]
  · rintro ⟨i, ok⟩ ⟨hR1, hR2⟩
    cases ok
    · obtain ⟨h1, h2⟩ := hR1 rfl
      simp only at h1
      subst h1 h2
      simp (config := {contextual := true, maxSteps := 2000000, implicitDefEqProofs := false}) [go_sem]
    · have := hR2 rfl
      simp at this
      omega
  · rintro pre u post ⟨i, ok⟩ hl hlen ⟨hR1, hR2⟩
    cases ok
    · obtain ⟨h1, h2⟩ := hR1 rfl
      simp only at h1
      subst h1 h2
      simp (config := {contextual := true, maxSteps := 2000000, implicitDefEqProofs := false}) [go_sem]
    · obtain ⟨h1, h2, h3⟩ := hR2 rfl
      simp only [List.length_cons, descF] at h1 h2 h3
      by_cases hkk : kindOf t i = kind
      · rw [if_pos hkk] at h3
        subst h3
        simp (config := {contextual := true, maxSteps := 2000000, implicitDefEqProofs := false}) [go_sem, hp, hkk]
      · rw [if_neg hkk] at h3
        have c1 := chooseR_ok (id := i) (seed := seed) (try_ := try_) ht
        have c2 := @chooseR_no t i seed try_
        simp (config := {contextual := true, maxSteps := 2000000, implicitDefEqProofs := false}) [go_sem, hp, hkk, ht, SubI]
        generalize chooseR t i seed try_ = c at *
        obtain ⟨ci, co⟩ := c
        cases co <;> simp at h3 c1 c2 ⊢ <;> grind
def c229 : SCode := (.seq (.reg [⟨(some 5), .box 39 (.tmp 0), none⟩,
   ⟨(some 10), .assign (.const (.int .i64 0)), none⟩,
   ⟨(some 11), .assign (.const (.bool false)), none⟩])
(.seq (.block 0 (.loop (.seq (.seq (.reg [⟨(some 14), .load 39 (.tmp 5), none⟩,
        ⟨(some 15), .move (.tmp 1), none⟩,
        ⟨(some 16), .call ⟨(.value (.func 94)), #[(.tmp 14), (.tmp 15)], #[39, 2]⟩, none⟩,
        ⟨(some 17), .move (.tmp 2), none⟩,
        ⟨(some 18), .binOp .neq 2 (.tmp 16) (.tmp 17) 2, none⟩])
     (.cond (.tmp 18) .skip
      (.exit 0)))
    (.block 1 (.seq (.reg [⟨(some 20), .load 39 (.tmp 5), none⟩,
         ⟨(some 21), .move (.tmp 1), none⟩,
         ⟨(some 22), .move (.tmp 3), none⟩,
         ⟨(some 23), .move (.tmp 4), none⟩,
         ⟨(some 24), .call ⟨(.value (.func 234)), #[(.tmp 20), (.tmp 21), (.tmp 22), (.tmp 23)], #[39, 2, 2, 2]⟩, none⟩,
         ⟨(some 19), .move (.tmp 24), none⟩,
         ⟨(some 25), .extract (.tmp 19) 0, none⟩,
         ⟨(some 26), .extract (.tmp 19) 1, none⟩,
         ⟨(some 12), .assign (.tmp 25), none⟩,
         ⟨(some 13), .assign (.tmp 26), none⟩])
      (.seq (.seq (.reg [⟨(some 27), .move (.tmp 13), none⟩,
           ⟨(some 28), .unOp .not 4 (.tmp 27), none⟩])
        (.cond (.tmp 28) (.seq (.reg [⟨(some 10), .assign (.const (.int .i64 0)), none⟩,
             ⟨(some 11), .assign (.const (.bool false)), none⟩])
          .ret)
         .skip))
       (.reg [⟨(some 29), .move (.tmp 12), none⟩,
          ⟨(some 1), .assign (.tmp 29), none⟩])))))))
 (.seq (.reg [⟨(some 30), .move (.tmp 1), none⟩,
     ⟨(some 10), .assign (.tmp 30), none⟩,
     ⟨(some 11), .assign (.const (.bool true)), none⟩])
  .ret)))
theorem s229 : slimF Tryz.f229 = some (c229, [.t 10, .t 11], 31) := by kernel_rfl
theorem o229 : okF [(94, g94), (234, g234)] Tryz.f229 = true := by kernel_rfl
noncomputable def g229 : Fsem := semT5 enTree (En.int .i64) (En.int .i64) (En.int .i64) (En.int .i64) (fun τ t id kind seed try_ => τ ≠ 0 ∧ treeOk t = true ∧ 0 ≤ kindOf t id) (fun n τ t id kind seed try_ => .tup [.int .i64 (desc t kind seed try_ id).1, .bool (desc t kind seed try_ id).2])
@[go_sem] theorem g229_eq {n τ : Nat} {t : Tree} {id : Int} {kind : Int} {seed : Int} {try_ : Int} : g229 n [.agg [.sl τ 2 (t.devices.map (enDev.av τ)), .sl τ 3 (t.buckets.map (enBkt.av τ))], .int .i64 id, .int .i64 kind, .int .i64 seed, .int .i64 try_] = ⟨τ ≠ 0 ∧ treeOk t = true ∧ 0 ≤ kindOf t id, .tup [.int .i64 (desc t kind seed try_ id).1, .bool (desc t kind seed try_ id).2]⟩ := semT5_eq (τ' := 0) (τ'' := 0) (τ3 := 0) (τ4 := 0) (E := enTree) (F := (En.int .i64)) (G := (En.int .i64)) (H := (En.int .i64)) (J := (En.int .i64)) (seen_Tree)
theorem p229 : Pure Tryz.prog 229 g229 := by
  refine semT5_pure fun τ τ' τ'' τ3 τ4 t id kind seed try_ n h2 hpre => ?_
  have hT : Table Tryz.prog [(94, g94), (234, g234)] := (.cons p94 (.cons p234 .nil))
  have hn0 : n ≠ 0 := by omega
  refine SatP.of_body hT hm Tryz.func229 s229 o229 h2 (by simp) ?_
  obtain ⟨hp, ht, hk⟩ := hpre
  have hk3 := (kind_in ht id).2
  generalize hr : desc t kind seed try_ id = r
  unfold desc at hr
  simp (config := {contextual := true, maxSteps := 2000000, implicitDefEqProofs := false}) [c229, go_sem, hp, hk]
  refine VW_listK hT h2 hm (List.replicate 5 ()) [2, 3, 4, 5] (fun pre post (b : Int) => [(1, .int .i64 b)]) (fun pre post (b : Int) => 0 ≤ kindOf t b ∧ kindOf t b < (post.length : Int) ∧ descF t kind seed try_ post.length b = r) id ?_ ?_ ?_ ?_
  · exact ⟨hk, by simp; omega, by simpa using hr⟩
  · simp [SubI, go_sem]
  · rintro i ⟨h1, h2, _⟩
    simp at h2
    omega
  · rintro pre u post i hl hlen ⟨h1, h2, h3⟩
    simp only [List.length_cons, descF] at h2 h3
    by_cases hkk : kindOf t i = kind
    · rw [if_pos hkk] at h3
      subst h3
      simp (config := {contextual := true, maxSteps := 2000000, implicitDefEqProofs := false}) [go_sem, hp, hkk]
    · rw [if_neg hkk] at h3
      have c1 := chooseR_ok (id := i) (seed := seed) (try_ := try_) ht
      simp (config := {contextual := true, maxSteps := 2000000, implicitDefEqProofs := false}) [go_sem, hp, hkk, ht, SubI]
      generalize chooseR t i seed try_ = c at *
      obtain ⟨ci, co⟩ := c
      cases co <;> simp at h3 c1 ⊢ <;> grind
end Go.Ve
namespace Go.Ve
open Go.Proofs Go.RowKit
set_option linter.unusedVariables false
set_option linter.unusedSimpArgs false
set_option maxRecDepth 10000
set_option maxHeartbeats 4000000
def c180 : SCode := (.seq (.reg [⟨(some 6), .box 39 (.tmp 0), none⟩,
   ⟨(some 7), .box 41 (.tmp 1), none⟩,
   ⟨(some 12), .assign (.const (.int .i64 0)), none⟩])
(.seq (.seq (.reg [⟨(some 18), .move (.const (.int .i64 0)), none⟩])
  (.block 0 (.loop (.seq (.reg [⟨(some 19), .binOp .lss 2 (.tmp 18) (.const (.int .i64 30)) 2, none⟩])
     (.seq (.cond (.tmp 19) .skip
       (.exit 0))
      (.seq (.block 1 (.seq (.reg [⟨(some 20), .move (.tmp 18), none⟩,
            ⟨(some 13), .assign (.tmp 20), none⟩])
         (.seq (.reg [⟨(some 21), .move (.tmp 13), none⟩,
             ⟨(some 22), .binOp .mul 2 (.tmp 21) (.const (.int .i64 7)) 2, none⟩,
             ⟨(some 23), .move (.tmp 4), none⟩,
             ⟨(some 24), .binOp .add 2 (.tmp 22) (.tmp 23) 2, none⟩,
             ⟨(some 14), .assign (.tmp 24), none⟩])
          (.seq (.reg [⟨(some 26), .load 39 (.tmp 6), none⟩,
              ⟨(some 27), .fieldAddr 41 (.tmp 7) 1, none⟩,
              ⟨(some 28), .load 2 (.tmp 27), none⟩,
              ⟨(some 29), .fieldAddr 41 (.tmp 7) 2, none⟩,
              ⟨(some 30), .load 2 (.tmp 29), none⟩,
              ⟨(some 31), .move (.tmp 2), none⟩,
              ⟨(some 32), .move (.tmp 14), none⟩,
              ⟨(some 33), .call ⟨(.value (.func 205)), #[(.tmp 26), (.tmp 28), (.tmp 30), (.tmp 31), (.tmp 32)], #[39, 2, 2, 2, 2]⟩, none⟩,
              ⟨(some 25), .move (.tmp 33), none⟩,
              ⟨(some 34), .extract (.tmp 25) 0, none⟩,
              ⟨(some 35), .extract (.tmp 25) 1, none⟩,
              ⟨(some 15), .assign (.tmp 34), none⟩,
              ⟨(some 16), .assign (.tmp 35), none⟩])
           (.seq (.seq (.reg [⟨(some 36), .move (.tmp 16), none⟩,
                ⟨(some 37), .unOp .not 4 (.tmp 36), none⟩])
             (.cond (.tmp 37) (.seq (.reg [⟨(some 12), .assign (.const (.int .i64 (-1))), none⟩])
               .ret)
              .skip))
            (.seq (.reg [⟨(some 39), .load 39 (.tmp 6), none⟩,
                ⟨(some 40), .move (.tmp 15), none⟩,
                ⟨(some 41), .move (.tmp 2), none⟩,
                ⟨(some 42), .move (.tmp 14), none⟩,
                ⟨(some 43), .call ⟨(.value (.func 205)), #[(.tmp 39), (.tmp 40), (.const (.int .i64 0)), (.tmp 41), (.tmp 42)], #[39, 2, 2, 2, 2]⟩, none⟩,
                ⟨(some 38), .move (.tmp 43), none⟩,
                ⟨(some 44), .extract (.tmp 38) 0, none⟩,
                ⟨(some 45), .extract (.tmp 38) 1, none⟩,
                ⟨(some 17), .assign (.tmp 44), none⟩,
                ⟨(some 16), .assign (.tmp 45), none⟩])
             (.seq (.reg [⟨(some 46), .move (.tmp 16), none⟩,
                 ⟨(some 47), .move (.tmp 46), none⟩,
                 ⟨(some 48), .move (.tmp 5), (some (47, true))⟩,
                 ⟨(some 49), .move (.tmp 17), (some (47, true))⟩,
                 ⟨(some 50), .call ⟨(.value (.func 83)), #[(.tmp 48), (.tmp 49)], #[28, 2]⟩, (some (47, true))⟩,
                 ⟨(some 51), .unOp .not 4 (.tmp 50), (some (47, true))⟩,
                 ⟨(some 52), .pick (.tmp 47) (.tmp 51) (.const (.bool false)), none⟩,
                 ⟨(some 53), .move (.tmp 52), none⟩,
                 ⟨(some 54), .load 39 (.tmp 6), (some (53, true))⟩,
                 ⟨(some 55), .fieldAddr 41 (.tmp 7) 2, (some (53, true))⟩,
                 ⟨(some 56), .load 2 (.tmp 55), (some (53, true))⟩,
                 ⟨(some 57), .move (.tmp 3), (some (53, true))⟩,
                 ⟨(some 58), .move (.tmp 4), (some (53, true))⟩,
                 ⟨(some 59), .move (.tmp 17), (some (53, true))⟩,
                 ⟨(some 60), .call ⟨(.value (.func 167)), #[(.tmp 54), (.tmp 56), (.tmp 57), (.tmp 58), (.tmp 59)], #[39, 2, 28, 2, 2]⟩, (some (53, true))⟩,
                 ⟨(some 61), .unOp .not 4 (.tmp 60), (some (53, true))⟩,
                 ⟨(some 62), .pick (.tmp 53) (.tmp 61) (.const (.bool false)), none⟩])
              (.cond (.tmp 62) (.seq (.reg [⟨(some 63), .move (.tmp 17), none⟩,
                   ⟨(some 12), .assign (.tmp 63), none⟩])
                .ret)
               .skip))))))))
       (.reg [⟨(some 64), .binOp .add 2 (.tmp 18) (.const (.int .i64 1)) 2, none⟩,
          ⟨(some 18), .move (.tmp 64), none⟩])))))))
 (.seq (.reg [⟨(some 12), .assign (.const (.int .i64 (-1))), none⟩])
  .ret)))
theorem s180 : slimF Tryz.f180 = some (c180, [.t 12], 65) := by kernel_rfl
theorem o180 : okF [(205, g205), (83, g83), (167, g167)] Tryz.f180 = true := by kernel_rfl
noncomputable def g180 : Fsem := semT6 enTree enRule (En.int .i64) (En.int .i64).list (En.int .i64) (En.int .i64).list (fun τ t r seed places a out => τ ≠ 0 ∧ treeOk t = true ∧ ruleOk t r = true ∧ (∀ o ∈ places, 0 ≤ o → 0 ≤ devI t o) ∧ 0 ≤ a ∧ a ≤ 7) (fun n τ t r seed places a out => .int .i64 (findP t r seed places a out))
@[go_sem] theorem g180_eq {n τ τ3 τ5 : Nat} {t : Tree} {r : Rule} {seed : Int} {places : List Int} {a : Int} {out : List Int} : g180 n [.agg [.sl τ 2 (t.devices.map (enDev.av τ)), .sl τ 3 (t.buckets.map (enBkt.av τ))], .agg [.int .i64 r.id, .int .i64 r.root, .int .i64 r.kind, .bool r.indep], .int .i64 seed, .sl τ3 1 (places.map (AV.int .i64)), .int .i64 a, .sl τ5 1 (out.map (AV.int .i64))] = ⟨τ ≠ 0 ∧ treeOk t = true ∧ ruleOk t r = true ∧ (∀ o ∈ places, 0 ≤ o → 0 ≤ devI t o) ∧ 0 ≤ a ∧ a ≤ 7, .int .i64 (findP t r seed places a out)⟩ := semT6_eq (τ' := 0) (τ'' := 0) (τ4 := 0) (E := enTree) (F := enRule) (G := (En.int .i64)) (H := (En.int .i64).list) (J := (En.int .i64)) (K := (En.int .i64).list) (seen_Tree)
theorem p180 : Pure Tryz.prog 180 g180 := by
  refine semT6_pure fun τ τ' τ'' τ3 τ4 τ5 t r seed places a out n h2 hpre => ?_
  have hT : Table Tryz.prog [(205, g205), (83, g83), (167, g167)] := (.cons p205 (.cons p83 (.cons p167 .nil)))
  have hn0 : n ≠ 0 := by omega
  refine SatP.of_body hT hm Tryz.func180 s180 o180 h2 (by simp) ?_
  obtain ⟨hp, ht, hr, hd, ha0, ha7⟩ := hpre
  have hr' := hr
  simp only [ruleOk, btw, Bool.and_eq_true, decide_eq_true_eq] at hr'
  have hk0 : 0 ≤ kindOf t r.root := by omega
  generalize hR0 : findP t r seed places a out = res
  unfold findP at hR0
  simp (config := {contextual := true, maxSteps := 2000000, implicitDefEqProofs := false}) [c180, go_sem, hp, ht]
  refine VW_listK hT h2 hm (List.replicate 30 ()) [2, 3, 4, 5, 6, 7] (fun pre post (b : Unit) => [(18, .int .i64 pre.length)]) (fun pre post (b : Unit) => findF t r seed places a out post.length pre.length = res) () ?_ ?_ ?_ ?_
  · simpa using hR0
  · simp [SubI, go_sem]
  · rintro _ hR
    have hR' : -1 = res := hR
    simp (config := {contextual := true, maxSteps := 2000000, implicitDefEqProofs := false}) [go_sem, ← hR']
  · rintro pre u post _ hl hlen hR
    have hln : 30 = pre.length + (post.length + 1) := by have := congrArg List.length hl; simp at this; omega
    have hw : IntKind.i64.wrap ((pre.length : Int) + 1) = (pre.length : Int) + 1 := wrap_ok (by omega) (by omega)
    have h3 : (0 : Int) ≤ pre.length := by omega
    have h4 : (pre.length : Int) < 30 := by omega
    have w1 : IntKind.i64.wrap ((pre.length : Int) * 7) = (pre.length : Int) * 7 := wrap_ok (by omega) (by omega)
    have w2 : IntKind.i64.wrap ((pre.length : Int) * 7 + a) = (pre.length : Int) * 7 + a := wrap_ok (by omega) (by omega)
    simp only [List.length_cons, findF] at hR
    by_cases h1 : (desc t r.kind seed ((pre.length : Int) * 7 + a) r.root).2 = true
    · rw [if_pos h1] at hR
      have d2 := desc2 ht hr h1
      have hcf : (desc t 0 seed ((pre.length : Int) * 7 + a) (desc t r.kind seed ((pre.length : Int) * 7 + a) r.root).1).2 = true → confL (domI t r.kind) (domI t r.kind (desc t 0 seed ((pre.length : Int) * 7 + a) (desc t r.kind seed ((pre.length : Int) * 7 + a) r.root).1).1) a (desc t 0 seed ((pre.length : Int) * 7 + a) (desc t r.kind seed ((pre.length : Int) * 7 + a) r.root).1).1 0 places = confS t r.kind places a (desc t 0 seed ((pre.length : Int) * 7 + a) (desc t r.kind seed ((pre.length : Int) * 7 + a) r.root).1).1 := fun h => confI_eq hd (d2.2 h)
      by_cases h2 : (desc t 0 seed ((pre.length : Int) * 7 + a) (desc t r.kind seed ((pre.length : Int) * 7 + a) r.root).1).2 = true
      · replace hcf := hcf h2
        simp (config := {contextual := true, maxSteps := 2000000, implicitDefEqProofs := false}) [go_sem, hw, w1, w2, h3, h4, hp, ht, hk0, h1, h2, d2.1, hcf, SubI]
        generalize (desc t 0 seed ((pre.length : Int) * 7 + a) (desc t r.kind seed ((pre.length : Int) * 7 + a) r.root).1).1 = nd at *
        cases hc1 : has out nd <;> cases hc2 : confS t r.kind places a nd <;> simp [h2, hc1, hc2] at hR ⊢ <;> exact hR
      · have h2' : (desc t 0 seed ((pre.length : Int) * 7 + a) (desc t r.kind seed ((pre.length : Int) * 7 + a) r.root).1).2 = false := by simpa using h2
        simp (config := {contextual := true, maxSteps := 2000000, implicitDefEqProofs := false}) [go_sem, hw, w1, w2, h3, h4, hp, ht, hk0, h1, h2', d2.1, SubI]
        rw [if_neg (fun h => h2 h.1)] at hR
        exact hR
    · rw [if_neg h1] at hR
      have h1' : (desc t r.kind seed ((pre.length : Int) * 7 + a) r.root).2 = false := by simpa using h1
      simp (config := {contextual := true, maxSteps := 2000000, implicitDefEqProofs := false}) [go_sem, hw, w1, w2, h3, h4, hp, ht, hk0, h1', SubI]
      exact hR
def c220 : SCode := (.seq (.reg [⟨(some 6), .box 39 (.tmp 0), none⟩,
   ⟨(some 7), .box 41 (.tmp 1), none⟩,
   ⟨(some 12), .assign (.const (.int .i64 0)), none⟩])
(.seq (.seq (.reg [⟨(some 13), .assign (.const (.int .i64 0)), none⟩])
  (.block 0 (.loop (.seq (.seq (.reg [⟨(some 18), .move (.tmp 13), none⟩,
         ⟨(some 19), .binOp .lss 2 (.tmp 18) (.const (.int .i64 30)) 2, none⟩])
      (.cond (.tmp 19) .skip
       (.exit 0)))
     (.seq (.block 1 (.seq (.reg [⟨(some 22), .move (.tmp 13), none⟩,
           ⟨(some 23), .binOp .mul 2 (.tmp 22) (.const (.int .i64 7)) 2, none⟩,
           ⟨(some 24), .move (.tmp 4), none⟩,
           ⟨(some 25), .binOp .add 2 (.tmp 23) (.tmp 24) 2, none⟩,
           ⟨(some 14), .assign (.tmp 25), none⟩])
        (.seq (.reg [⟨(some 27), .load 39 (.tmp 6), none⟩,
            ⟨(some 28), .fieldAddr 41 (.tmp 7) 1, none⟩,
            ⟨(some 29), .load 2 (.tmp 28), none⟩,
            ⟨(some 30), .fieldAddr 41 (.tmp 7) 2, none⟩,
            ⟨(some 31), .load 2 (.tmp 30), none⟩,
            ⟨(some 32), .move (.tmp 2), none⟩,
            ⟨(some 33), .move (.tmp 14), none⟩,
            ⟨(some 34), .call ⟨(.value (.func 229)), #[(.tmp 27), (.tmp 29), (.tmp 31), (.tmp 32), (.tmp 33)], #[39, 2, 2, 2, 2]⟩, none⟩,
            ⟨(some 26), .move (.tmp 34), none⟩,
            ⟨(some 35), .extract (.tmp 26) 0, none⟩,
            ⟨(some 36), .extract (.tmp 26) 1, none⟩,
            ⟨(some 15), .assign (.tmp 35), none⟩,
            ⟨(some 16), .assign (.tmp 36), none⟩])
         (.seq (.seq (.reg [⟨(some 37), .move (.tmp 16), none⟩,
              ⟨(some 38), .unOp .not 4 (.tmp 37), none⟩])
           (.cond (.tmp 38) (.seq (.reg [⟨(some 12), .assign (.const (.int .i64 (-1))), none⟩])
             .ret)
            .skip))
          (.seq (.reg [⟨(some 40), .load 39 (.tmp 6), none⟩,
              ⟨(some 41), .move (.tmp 15), none⟩,
              ⟨(some 42), .move (.tmp 2), none⟩,
              ⟨(some 43), .move (.tmp 14), none⟩,
              ⟨(some 44), .call ⟨(.value (.func 229)), #[(.tmp 40), (.tmp 41), (.const (.int .i64 0)), (.tmp 42), (.tmp 43)], #[39, 2, 2, 2, 2]⟩, none⟩,
              ⟨(some 39), .move (.tmp 44), none⟩,
              ⟨(some 45), .extract (.tmp 39) 0, none⟩,
              ⟨(some 46), .extract (.tmp 39) 1, none⟩,
              ⟨(some 17), .assign (.tmp 45), none⟩,
              ⟨(some 16), .assign (.tmp 46), none⟩])
           (.seq (.reg [⟨(some 47), .move (.tmp 16), none⟩,
               ⟨(some 48), .move (.tmp 47), none⟩,
               ⟨(some 49), .move (.tmp 5), (some (48, true))⟩,
               ⟨(some 50), .move (.tmp 17), (some (48, true))⟩,
               ⟨(some 51), .call ⟨(.value (.func 126)), #[(.tmp 49), (.tmp 50)], #[28, 2]⟩, (some (48, true))⟩,
               ⟨(some 52), .unOp .not 4 (.tmp 51), (some (48, true))⟩,
               ⟨(some 53), .pick (.tmp 48) (.tmp 52) (.const (.bool false)), none⟩,
               ⟨(some 54), .move (.tmp 53), none⟩,
               ⟨(some 55), .load 39 (.tmp 6), (some (54, true))⟩,
               ⟨(some 56), .fieldAddr 41 (.tmp 7) 2, (some (54, true))⟩,
               ⟨(some 57), .load 2 (.tmp 56), (some (54, true))⟩,
               ⟨(some 58), .move (.tmp 3), (some (54, true))⟩,
               ⟨(some 59), .move (.tmp 4), (some (54, true))⟩,
               ⟨(some 60), .move (.tmp 17), (some (54, true))⟩,
               ⟨(some 61), .call ⟨(.value (.func 99)), #[(.tmp 55), (.tmp 57), (.tmp 58), (.tmp 59), (.tmp 60)], #[39, 2, 28, 3, 2]⟩, (some (54, true))⟩,
               ⟨(some 62), .pick (.tmp 54) (.tmp 61) (.const (.bool false)), none⟩])
            (.cond (.tmp 62) (.seq (.reg [⟨(some 63), .move (.tmp 17), none⟩,
                 ⟨(some 12), .assign (.tmp 63), none⟩])
              .ret)
             .skip)))))))
      (.reg [⟨(some 20), .move (.tmp 13), none⟩,
         ⟨(some 21), .binOp .add 2 (.tmp 20) (.const (.int .i64 1)) 2, none⟩,
         ⟨(some 13), .assign (.tmp 21), none⟩]))))))
 (.seq (.reg [⟨(some 12), .assign (.const (.int .i64 (-1))), none⟩])
  .ret)))
theorem s220 : slimF Tryz.f220 = some (c220, [.t 12], 64) := by kernel_rfl
theorem o220 : okF [(229, g229), (126, g126), (99, g99)] Tryz.f220 = true := by kernel_rfl
noncomputable def g220 : Fsem := semT6 enTree enRule (En.int .i64) (En.int .i64).list (En.int .i64) (En.int .i64).list (fun τ t r seed places a out => τ ≠ 0 ∧ treeOk t = true ∧ ruleOk t r = true ∧ (∀ o ∈ places, 0 ≤ o → 0 ≤ devI t o) ∧ 0 ≤ a ∧ a ≤ 7) (fun n τ t r seed places a out => .int .i64 (findP t r seed places a out))
@[go_sem] theorem g220_eq {n τ τ3 τ5 : Nat} {t : Tree} {r : Rule} {seed : Int} {places : List Int} {a : Int} {out : List Int} : g220 n [.agg [.sl τ 2 (t.devices.map (enDev.av τ)), .sl τ 3 (t.buckets.map (enBkt.av τ))], .agg [.int .i64 r.id, .int .i64 r.root, .int .i64 r.kind, .bool r.indep], .int .i64 seed, .sl τ3 1 (places.map (AV.int .i64)), .int .i64 a, .sl τ5 1 (out.map (AV.int .i64))] = ⟨τ ≠ 0 ∧ treeOk t = true ∧ ruleOk t r = true ∧ (∀ o ∈ places, 0 ≤ o → 0 ≤ devI t o) ∧ 0 ≤ a ∧ a ≤ 7, .int .i64 (findP t r seed places a out)⟩ := semT6_eq (τ' := 0) (τ'' := 0) (τ4 := 0) (E := enTree) (F := enRule) (G := (En.int .i64)) (H := (En.int .i64).list) (J := (En.int .i64)) (K := (En.int .i64).list) (seen_Tree)
theorem p220 : Pure Tryz.prog 220 g220 := by
  refine semT6_pure fun τ τ' τ'' τ3 τ4 τ5 t r seed places a out n h2 hpre => ?_
  have hT : Table Tryz.prog [(229, g229), (126, g126), (99, g99)] := (.cons p229 (.cons p126 (.cons p99 .nil)))
  have hn0 : n ≠ 0 := by omega
  refine SatP.of_body hT hm Tryz.func220 s220 o220 h2 (by simp) ?_
  obtain ⟨hp, ht, hr, hd, ha0, ha7⟩ := hpre
  have hr' := hr
  simp only [ruleOk, btw, Bool.and_eq_true, decide_eq_true_eq] at hr'
  have hk0 : 0 ≤ kindOf t r.root := by omega
  generalize hR0 : findP t r seed places a out = res
  unfold findP at hR0
  simp (config := {contextual := true, maxSteps := 2000000, implicitDefEqProofs := false}) [c220, go_sem, hp, ht]
  refine VW_listK hT h2 hm (List.replicate 30 ()) [2, 3, 4, 5, 6, 7] (fun pre post (b : Unit) => [(13, .int .i64 pre.length)]) (fun pre post (b : Unit) => findF t r seed places a out post.length pre.length = res) () ?_ ?_ ?_ ?_
  · simpa using hR0
  · simp [SubI, go_sem]
  · rintro _ hR
    have hR' : -1 = res := hR
    simp (config := {contextual := true, maxSteps := 2000000, implicitDefEqProofs := false}) [go_sem, ← hR']
  · rintro pre u post _ hl hlen hR
    have hln : 30 = pre.length + (post.length + 1) := by have := congrArg List.length hl; simp at this; omega
    have hw : IntKind.i64.wrap ((pre.length : Int) + 1) = (pre.length : Int) + 1 := wrap_ok (by omega) (by omega)
    have h3 : (0 : Int) ≤ pre.length := by omega
    have h4 : (pre.length : Int) < 30 := by omega
    have w1 : IntKind.i64.wrap ((pre.length : Int) * 7) = (pre.length : Int) * 7 := wrap_ok (by omega) (by omega)
    have w2 : IntKind.i64.wrap ((pre.length : Int) * 7 + a) = (pre.length : Int) * 7 + a := wrap_ok (by omega) (by omega)
    simp only [List.length_cons, findF] at hR
    by_cases h1 : (desc t r.kind seed ((pre.length : Int) * 7 + a) r.root).2 = true
    · rw [if_pos h1] at hR
      have d2 := desc2 ht hr h1
      have hcf : (desc t 0 seed ((pre.length : Int) * 7 + a) (desc t r.kind seed ((pre.length : Int) * 7 + a) r.root).1).2 = true → confL (domI t r.kind) (domI t r.kind (desc t 0 seed ((pre.length : Int) * 7 + a) (desc t r.kind seed ((pre.length : Int) * 7 + a) r.root).1).1) a (desc t 0 seed ((pre.length : Int) * 7 + a) (desc t r.kind seed ((pre.length : Int) * 7 + a) r.root).1).1 0 places = confS t r.kind places a (desc t 0 seed ((pre.length : Int) * 7 + a) (desc t r.kind seed ((pre.length : Int) * 7 + a) r.root).1).1 := fun h => confI_eq hd (d2.2 h)
      by_cases h2 : (desc t 0 seed ((pre.length : Int) * 7 + a) (desc t r.kind seed ((pre.length : Int) * 7 + a) r.root).1).2 = true
      · replace hcf := hcf h2
        simp (config := {contextual := true, maxSteps := 2000000, implicitDefEqProofs := false}) [go_sem, hw, w1, w2, h3, h4, hp, ht, hk0, h1, h2, d2.1, hcf, SubI]
        generalize (desc t 0 seed ((pre.length : Int) * 7 + a) (desc t r.kind seed ((pre.length : Int) * 7 + a) r.root).1).1 = nd at *
        cases hc1 : has out nd <;> cases hc2 : confS t r.kind places a nd <;> simp [h2, hc1, hc2] at hR ⊢ <;> exact hR
      · have h2' : (desc t 0 seed ((pre.length : Int) * 7 + a) (desc t r.kind seed ((pre.length : Int) * 7 + a) r.root).1).2 = false := by simpa using h2
        simp (config := {contextual := true, maxSteps := 2000000, implicitDefEqProofs := false}) [go_sem, hw, w1, w2, h3, h4, hp, ht, hk0, h1, h2', d2.1, SubI]
        rw [if_neg (fun h => h2 h.1)] at hR
        exact hR
    · rw [if_neg h1] at hR
      have h1' : (desc t r.kind seed ((pre.length : Int) * 7 + a) r.root).2 = false := by simpa using h1
      simp (config := {contextual := true, maxSteps := 2000000, implicitDefEqProofs := false}) [go_sem, hw, w1, w2, h3, h4, hp, ht, hk0, h1', SubI]
      exact hR
end Go.Ve
