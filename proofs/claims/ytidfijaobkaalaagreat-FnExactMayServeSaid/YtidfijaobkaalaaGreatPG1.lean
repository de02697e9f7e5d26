/- The texts of this claim, part PG 1: the engine that runs the code on values, the data, the contracts. No condition. -/
import Derived.Test.YtidfijaobkaalaaGreatPE2
namespace Go.Ve
open Go.Proofs Go.RowKit
set_option linter.unusedVariables false
set_option linter.unusedSimpArgs false
set_option maxRecDepth 10000
set_option maxHeartbeats 4000000
def c5 : SCode := (.seq (.reg [⟨(some 2), .box 58 (.tmp 0), none⟩,
   ⟨(some 3), .box 30 (.tmp 1), none⟩,
   ⟨(some 4), .assign (.const (.bool false)), none⟩])
(.seq (.reg [⟨(some 5), .assign (.const (.int .i64 1048576)), none⟩])
 (.seq (.reg [⟨(some 9), .load 58 (.tmp 2), none⟩,
     ⟨(some 10), .move (.tmp 5), none⟩,
     ⟨(some 11), .call ⟨(.value (.func 23)), #[(.tmp 9), (.tmp 10)], #[58, 3]⟩, none⟩,
     ⟨(some 5), .assign (.tmp 11), none⟩])
  (.seq (.seq (.reg [⟨(some 12), .move (.tmp 5), none⟩,
       ⟨(some 13), .binOp .lss 3 (.tmp 12) (.const (.int .i64 0)) 3, none⟩])
    (.cond (.tmp 13) (.seq (.reg [⟨(some 4), .assign (.const (.bool true)), none⟩])
      .ret)
     .skip))
   (.seq (.draw [⟨(some 14), .load 58 (.tmp 2), none⟩,
       ⟨(some 15), .call ⟨(.value (.func 25)), #[(.tmp 14)], #[58]⟩, none⟩,
       ⟨(some 16), .load 30 (.tmp 3), none⟩,
       ⟨(some 17), .call ⟨(.value (.func 13)), #[(.tmp 16)], #[30]⟩, none⟩,
       ⟨(some 18), .call ⟨(.value (.func 29)), #[(.tmp 15), (.tmp 17)], #[65, 44]⟩, none⟩,
       ⟨(some 6), .assign (.tmp 18), none⟩] [[], [0], [], [0, 1, 2], [0, 1, 2, 3], [0, 1, 2, 3, 4]])
    (.seq (.reg [⟨(some 19), .load 58 (.tmp 2), none⟩,
        ⟨(some 20), .call ⟨(.value (.func 25)), #[(.tmp 19)], #[58]⟩, none⟩,
        ⟨(some 7), .alloc 65, none⟩,
        ⟨none, .store 65 (.tmp 7) (.tmp 20), none⟩])
     (.seq (.draw [⟨(some 21), .load 65 (.tmp 7), none⟩,
         ⟨(some 22), .load 30 (.tmp 3), none⟩,
         ⟨(some 23), .call ⟨(.value (.func 13)), #[(.tmp 22)], #[30]⟩, none⟩,
         ⟨(some 24), .call ⟨(.value (.func 30)), #[(.tmp 21), (.tmp 23)], #[65, 44]⟩, none⟩,
         ⟨(some 8), .assign (.tmp 24), none⟩] [[], [], [1], [0, 1, 2], [0, 1, 2, 3]])
      (.seq (.seq (.reg [⟨(some 25), .move (.tmp 8), none⟩,
           ⟨(some 26), .move (.tmp 6), none⟩,
           ⟨(some 27), .binOp .neq 4 (.tmp 25) (.tmp 26) 4, none⟩])
        (.cond (.tmp 27) (.seq (.reg [⟨(some 4), .assign (.const (.bool false)), none⟩])
          .ret)
         .skip))
       (.seq (.seq (.draw [⟨(some 28), .load 65 (.tmp 7), none⟩,
            ⟨(some 29), .load 58 (.tmp 2), none⟩,
            ⟨(some 30), .call ⟨(.value (.func 25)), #[(.tmp 29)], #[58]⟩, none⟩,
            ⟨(some 31), .call ⟨(.value (.func 27)), #[(.tmp 28), (.tmp 30)], #[65, 65]⟩, none⟩,
            ⟨(some 32), .unOp .not 4 (.tmp 31), none⟩] [[], [], [1], [0, 1, 2], [0, 1, 2, 3]])
         (.cond (.tmp 32) (.seq (.reg [⟨(some 4), .assign (.const (.bool false)), none⟩])
           .ret)
          .skip))
        (.seq (.reg [⟨(some 4), .assign (.const (.bool true)), none⟩])
         .ret))))))))))
theorem s5 : slimF Tryz.f5 = some (c5, [.t 4], 33) := by kernel_rfl
theorem o5 : okF [(23, g23), (25, g25), (13, g13), (29, g29), (30, g30), (27, g27)] Tryz.f5 = true := by kernel_rfl
noncomputable def g5 : Fsem := sem2 enMp enPg (fun m g => True) (fun n m g => .bool true)
@[go_sem] theorem g5_eq {n τ : Nat} {m : Mp} {g : Pg} : g5 n [.agg [.int .i64 m.epoch, .int .i64 m.term, .sl τ 2 (m.tree.devices.map (enDev.av τ)), .sl τ 3 (m.tree.buckets.map (enBkt.av τ)), .sl τ 4 (m.rules.map (enRule.av τ)), .sl τ 6 (m.pools.map (enPool.av τ)), .sl τ 1 (m.up.map (AV.int .i64)), .sl τ 1 (m.out.map (AV.int .i64))], .agg [.int .i64 g.pool, .int .i64 g.no]] = ⟨True, .bool true⟩ := sem2_eq (τ' := 0) (E := enMp) (F := enPg)
theorem p5 : Pure Tryz.prog 5 g5 := by
  refine sem2_pure fun τ τ' m g n h2 hpre => ?_
  have hT : Table Tryz.prog [(23, g23), (25, g25), (13, g13), (29, g29), (30, g30), (27, g27)] := (.cons p23 (.cons p25 (.cons p13 (.cons p29 (.cons p30 (.cons p27 .nil))))))
  have hn0 : n ≠ 0 := by omega
  refine SatP.of_body hT hm Tryz.func5 s5 o5 h2 (by simp) ?_
  have hself : ∀ {α : Type} (x : α), eqB x x = true := fun x => eqB_iff.2 rfl
  rcases szR_spec 1048576 ((m.tree.devices.length + (m.tree.buckets.length + (m.tree.buckets.map enBkt.tot).sum)) + m.rules.length + m.pools.length + m.up.length + m.out.length) with ⟨h1, h3⟩ | ⟨h1, h3⟩
  · have h4 : (0 : Int) ≤ 1048576 - (((m.tree.devices.length + (m.tree.buckets.length + (m.tree.buckets.map enBkt.tot).sum)) + m.rules.length + m.pools.length + m.up.length + m.out.length) : Nat) := by omega
    have h5 : ((m.tree.devices.length + (m.tree.buckets.length + (m.tree.buckets.map enBkt.tot).sum)) + m.rules.length + m.pools.length + m.up.length + m.out.length) ≤ 1048576 := by omega
    have h6 : ¬ (1048576 - ((((m.tree.devices.length + (m.tree.buckets.length + (m.tree.buckets.map enBkt.tot).sum)) + m.rules.length + m.pools.length + m.up.length + m.out.length) : Nat) : Int)) < 0 := by omega
    simp only [Int.natCast_add] at h3 h4 h6
    simp (config := {contextual := true, maxSteps := 2000000, implicitDefEqProofs := false}) [c5, go_sem, bigB, h3, h4, h5, h6, hn0, hself] <;> grind
  · simp (config := {contextual := true, maxSteps := 2000000, implicitDefEqProofs := false}) [c5, go_sem, bigB, h3]
theorem sat_FnExactMayServe (x0 : Mp) (x1 : Pg) (_ : okMp x0) (_ : okPg x1) : SatM Tryz.prog 2 5 [] [enMp.av 1 x0, enPg.av 1 x1] [] (.bool true) := by
  have h := p5 2 [enMp.av 1 x0, enPg.av 1 x1] (by omega)
  have he : g5 2 [enMp.av 1 x0, enPg.av 1 x1] = ⟨True, .bool true⟩ := g5_eq
  rw [he] at h
  exact h trivial
end Go.Ve
