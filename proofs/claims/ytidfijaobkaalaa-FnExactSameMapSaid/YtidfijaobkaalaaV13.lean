/- The law of maps compared. No condition. -/
import Derived.Test.YtidfijaobkaalaaV11
namespace Go.Ve
open Go.Proofs Go.RowKit
set_option linter.unusedVariables false
set_option linter.unusedSimpArgs false
set_option maxRecDepth 10000
set_option maxHeartbeats 4000000
/- laws.FnExactSameMap -/
def c5 : SCode := (.seq (.reg [⟨(some 2), .box 30 (.tmp 0), none⟩,
   ⟨(some 3), .box 30 (.tmp 1), none⟩,
   ⟨(some 4), .assign (.const (.bool false)), none⟩])
(.seq (.reg [⟨(some 5), .assign (.const (.int .i64 1048576)), none⟩])
 (.seq (.reg [⟨(some 10), .load 30 (.tmp 2), none⟩,
     ⟨(some 11), .move (.tmp 5), none⟩,
     ⟨(some 12), .call ⟨(.value (.func 8)), #[(.tmp 10), (.tmp 11)], #[30, 3]⟩, none⟩,
     ⟨(some 5), .assign (.tmp 12), none⟩])
  (.seq (.seq (.reg [⟨(some 13), .move (.tmp 5), none⟩,
       ⟨(some 14), .binOp .lss 3 (.tmp 13) (.const (.int .i64 0)) 3, none⟩])
    (.cond (.tmp 14) (.seq (.reg [⟨(some 4), .assign (.const (.bool true)), none⟩])
      .ret)
     .skip))
   (.seq (.reg [⟨(some 15), .load 30 (.tmp 3), none⟩,
       ⟨(some 16), .move (.tmp 5), none⟩,
       ⟨(some 17), .call ⟨(.value (.func 8)), #[(.tmp 15), (.tmp 16)], #[30, 3]⟩, none⟩,
       ⟨(some 5), .assign (.tmp 17), none⟩])
    (.seq (.seq (.reg [⟨(some 18), .move (.tmp 5), none⟩,
         ⟨(some 19), .binOp .lss 3 (.tmp 18) (.const (.int .i64 0)) 3, none⟩])
      (.cond (.tmp 19) (.seq (.reg [⟨(some 4), .assign (.const (.bool true)), none⟩])
        .ret)
       .skip))
     (.seq (.draw [⟨(some 20), .load 30 (.tmp 2), none⟩,
         ⟨(some 21), .call ⟨(.value (.func 10)), #[(.tmp 20)], #[30]⟩, none⟩,
         ⟨(some 22), .load 30 (.tmp 3), none⟩,
         ⟨(some 23), .call ⟨(.value (.func 10)), #[(.tmp 22)], #[30]⟩, none⟩,
         ⟨(some 24), .call ⟨(.value (.func 16)), #[(.tmp 21), (.tmp 23)], #[40, 40]⟩, none⟩,
         ⟨(some 6), .assign (.tmp 24), none⟩] [[], [0], [], [0, 1, 2], [0, 1, 2, 3], [0, 1, 2, 3, 4]])
      (.seq (.reg [⟨(some 25), .load 30 (.tmp 2), none⟩,
          ⟨(some 26), .call ⟨(.value (.func 10)), #[(.tmp 25)], #[30]⟩, none⟩,
          ⟨(some 7), .alloc 40, none⟩,
          ⟨none, .store 40 (.tmp 7) (.tmp 26), none⟩])
       (.seq (.reg [⟨(some 27), .load 30 (.tmp 3), none⟩,
           ⟨(some 28), .call ⟨(.value (.func 10)), #[(.tmp 27)], #[30]⟩, none⟩,
           ⟨(some 8), .alloc 40, none⟩,
           ⟨none, .store 40 (.tmp 8) (.tmp 28), none⟩])
        (.seq (.reg [⟨(some 29), .load 40 (.tmp 7), none⟩,
            ⟨(some 30), .load 40 (.tmp 8), none⟩,
            ⟨(some 31), .call ⟨(.value (.func 17)), #[(.tmp 29), (.tmp 30)], #[40, 40]⟩, none⟩,
            ⟨(some 9), .assign (.tmp 31), none⟩])
         (.seq (.seq (.reg [⟨(some 32), .move (.tmp 9), none⟩,
              ⟨(some 33), .move (.tmp 6), none⟩,
              ⟨(some 34), .binOp .neq 4 (.tmp 32) (.tmp 33) 4, none⟩])
           (.cond (.tmp 34) (.seq (.reg [⟨(some 4), .assign (.const (.bool false)), none⟩])
             .ret)
            .skip))
          (.seq (.seq (.draw [⟨(some 35), .load 40 (.tmp 7), none⟩,
               ⟨(some 36), .load 30 (.tmp 2), none⟩,
               ⟨(some 37), .call ⟨(.value (.func 10)), #[(.tmp 36)], #[30]⟩, none⟩,
               ⟨(some 38), .call ⟨(.value (.func 12)), #[(.tmp 35), (.tmp 37)], #[40, 40]⟩, none⟩,
               ⟨(some 39), .unOp .not 4 (.tmp 38), none⟩] [[], [], [1], [0, 1, 2], [0, 1, 2, 3]])
            (.cond (.tmp 39) (.seq (.reg [⟨(some 4), .assign (.const (.bool false)), none⟩])
              .ret)
             .skip))
           (.seq (.seq (.draw [⟨(some 40), .load 40 (.tmp 8), none⟩,
                ⟨(some 41), .load 30 (.tmp 3), none⟩,
                ⟨(some 42), .call ⟨(.value (.func 10)), #[(.tmp 41)], #[30]⟩, none⟩,
                ⟨(some 43), .call ⟨(.value (.func 12)), #[(.tmp 40), (.tmp 42)], #[40, 40]⟩, none⟩,
                ⟨(some 44), .unOp .not 4 (.tmp 43), none⟩] [[], [], [1], [0, 1, 2], [0, 1, 2, 3]])
             (.cond (.tmp 44) (.seq (.reg [⟨(some 4), .assign (.const (.bool false)), none⟩])
               .ret)
              .skip))
            (.seq (.reg [⟨(some 4), .assign (.const (.bool true)), none⟩])
             .ret))))))))))))))
theorem s5 : slimF Try.f5 = some (c5, [.t 4], 45) := by kernel_rfl
theorem o5 : okF [(8, g8), (10, g10), (16, g16), (17, g17), (12, g12)] Try.f5 = true := by kernel_rfl
noncomputable def g5 : Fsem := sem2 enMp enMp (fun x y => True) (fun n x y => .bool true)
@[go_sem] theorem g5_eq {n τ τ' : Nat} {x : Mp} {y : Mp} : g5 n [.agg [.int .i64 x.epoch, .int .i64 x.term, .sl τ 2 (x.tree.devices.map (enDev.av τ)), .sl τ 3 (x.tree.buckets.map (enBkt.av τ)), .sl τ 4 (x.rules.map (enRule.av τ)), .sl τ 6 (x.pools.map (enPool.av τ)), .sl τ 1 (x.up.map (AV.int .i64)), .sl τ 1 (x.out.map (AV.int .i64))], .agg [.int .i64 y.epoch, .int .i64 y.term, .sl τ' 2 (y.tree.devices.map (enDev.av τ')), .sl τ' 3 (y.tree.buckets.map (enBkt.av τ')), .sl τ' 4 (y.rules.map (enRule.av τ')), .sl τ' 6 (y.pools.map (enPool.av τ')), .sl τ' 1 (y.up.map (AV.int .i64)), .sl τ' 1 (y.out.map (AV.int .i64))]] = ⟨True, .bool true⟩ := sem2_eq  (E := enMp) (F := enMp)
theorem p5 : Pure Try.prog 5 g5 := by
  refine sem2_pure fun τ τ' x y n h2 hpre => ?_
  have hT : Table Try.prog [(8, g8), (10, g10), (16, g16), (17, g17), (12, g12)] := (.cons p8 (.cons p10 (.cons p16 (.cons p17 (.cons p12 .nil)))))
  have hn0 : n ≠ 0 := by omega
  refine SatP.of_body hT hm Try.func5 s5 o5 h2 (by simp) ?_
  have hself : ∀ {α : Type} (x : α), eqB x x = true := fun x => eqB_iff.2 rfl
  generalize hta : ((x.tree.devices.length + (x.tree.buckets.length + (x.tree.buckets.map enBkt.tot).sum)) + x.rules.length + x.pools.length + x.up.length + x.out.length) = ta
  generalize htb : ((y.tree.devices.length + (y.tree.buckets.length + (y.tree.buckets.map enBkt.tot).sum)) + y.rules.length + y.pools.length + y.up.length + y.out.length) = tb
  rcases szR_spec 1048576 ta with ⟨h1, h3⟩ | ⟨h1, h3⟩
  · have h4 : (0 : Int) ≤ 1048576 - (ta : Nat) := by omega
    have h4' : 1048576 - ((ta : Nat) : Int) ≤ 4611686018427387904 := by omega
    have h5 : ta ≤ 1048576 := by omega
    have h6 : ¬ (1048576 - ((ta : Nat) : Int)) < 0 := by omega
    rcases szR_spec (1048576 - (ta : Int)) tb with ⟨k1, k3⟩ | ⟨k1, k3⟩
    · have k4 : (0 : Int) ≤ 1048576 - (ta : Int) - (tb : Nat) := by omega
      have k5 : tb ≤ 1048576 := by omega
      have k6 : ¬ (1048576 - (ta : Int) - ((tb : Nat) : Int)) < 0 := by omega
      simp (config := {contextual := true, maxSteps := 2000000, implicitDefEqProofs := false}) [c5, go_sem, bigB, hta, htb, h3, h4, h4', h5, h6, k3, k4, k5, k6, hn0, hself] <;> grind
    · simp (config := {contextual := true, maxSteps := 2000000, implicitDefEqProofs := false}) [c5, go_sem, bigB, hta, htb, h3, h4, h4', h5, h6, k3, hn0, hself] <;> grind
  · simp (config := {contextual := true, maxSteps := 2000000, implicitDefEqProofs := false}) [c5, go_sem, bigB, hta, h3] <;> grind
theorem sat_FnExactSameMap (x0 : Mp) (x1 : Mp) (_ : okMp x0) (_ : okMp x1) : SatM Try.prog 2 5 [] [enMp.av 1 x0, enMp.av 1 x1] [] (.bool true) := by
  have h := p5 2 [enMp.av 1 x0, enMp.av 1 x1] (by omega)
  have he : g5 2 [enMp.av 1 x0, enMp.av 1 x1] = ⟨True, .bool true⟩ := g5_eq
  rw [he] at h
  exact h trivial
end Go.Ve
