/- The laws of maps and pools. No condition. -/
import Derived.Test.YtidfijaobkaalaaV10
namespace Go.Ve
open Go.Proofs Go.RowKit
set_option linter.unusedVariables false
set_option linter.unusedSimpArgs false
set_option maxRecDepth 10000
set_option maxHeartbeats 4000000
/- laws.FnExactMapOk -/
def c3 : SCode := (.seq (.reg [⟨(some 1), .box 30 (.tmp 0), none⟩,
   ⟨(some 2), .assign (.const (.bool false)), none⟩])
(.seq (.reg [⟨(some 3), .assign (.const (.int .i64 1048576)), none⟩])
 (.seq (.reg [⟨(some 7), .load 30 (.tmp 1), none⟩,
     ⟨(some 8), .move (.tmp 3), none⟩,
     ⟨(some 9), .call ⟨(.value (.func 8)), #[(.tmp 7), (.tmp 8)], #[30, 3]⟩, none⟩,
     ⟨(some 3), .assign (.tmp 9), none⟩])
  (.seq (.seq (.reg [⟨(some 10), .move (.tmp 3), none⟩,
       ⟨(some 11), .binOp .lss 3 (.tmp 10) (.const (.int .i64 0)) 3, none⟩])
    (.cond (.tmp 11) (.seq (.reg [⟨(some 2), .assign (.const (.bool true)), none⟩])
      .ret)
     .skip))
   (.seq (.reg [⟨(some 12), .load 30 (.tmp 1), none⟩,
       ⟨(some 13), .call ⟨(.value (.func 10)), #[(.tmp 12)], #[30]⟩, none⟩,
       ⟨(some 14), .call ⟨(.value (.func 9)), #[(.tmp 13)], #[40]⟩, none⟩,
       ⟨(some 4), .assign (.tmp 14), none⟩])
    (.seq (.reg [⟨(some 15), .load 30 (.tmp 1), none⟩,
        ⟨(some 16), .call ⟨(.value (.func 10)), #[(.tmp 15)], #[30]⟩, none⟩,
        ⟨(some 5), .alloc 40, none⟩,
        ⟨none, .store 40 (.tmp 5) (.tmp 16), none⟩])
     (.seq (.reg [⟨(some 17), .load 40 (.tmp 5), none⟩,
         ⟨(some 18), .call ⟨(.value (.func 11)), #[(.tmp 17)], #[40]⟩, none⟩,
         ⟨(some 6), .assign (.tmp 18), none⟩])
      (.seq (.seq (.reg [⟨(some 19), .move (.tmp 6), none⟩,
           ⟨(some 20), .move (.tmp 4), none⟩,
           ⟨(some 21), .binOp .neq 4 (.tmp 19) (.tmp 20) 4, none⟩])
        (.cond (.tmp 21) (.seq (.reg [⟨(some 2), .assign (.const (.bool false)), none⟩])
          .ret)
         .skip))
       (.seq (.seq (.draw [⟨(some 22), .load 40 (.tmp 5), none⟩,
            ⟨(some 23), .load 30 (.tmp 1), none⟩,
            ⟨(some 24), .call ⟨(.value (.func 10)), #[(.tmp 23)], #[30]⟩, none⟩,
            ⟨(some 25), .call ⟨(.value (.func 12)), #[(.tmp 22), (.tmp 24)], #[40, 40]⟩, none⟩,
            ⟨(some 26), .unOp .not 4 (.tmp 25), none⟩] [[], [], [1], [0, 1, 2], [0, 1, 2, 3]])
         (.cond (.tmp 26) (.seq (.reg [⟨(some 2), .assign (.const (.bool false)), none⟩])
           .ret)
          .skip))
        (.seq (.reg [⟨(some 2), .assign (.const (.bool true)), none⟩])
         .ret))))))))))
theorem s3 : slimF Try.f3 = some (c3, [.t 2], 27) := by kernel_rfl
theorem o3 : okF [(8, g8), (10, g10), (9, g9), (11, g11), (12, g12)] Try.f3 = true := by kernel_rfl
noncomputable def g3 : Fsem := sem1 enMp (fun m => True) (fun n m => .bool true)
@[go_sem] theorem g3_eq {n τ : Nat} {m : Mp} : g3 n [.agg [.int .i64 m.epoch, .int .i64 m.term, .sl τ 2 (m.tree.devices.map (enDev.av τ)), .sl τ 3 (m.tree.buckets.map (enBkt.av τ)), .sl τ 4 (m.rules.map (enRule.av τ)), .sl τ 6 (m.pools.map (enPool.av τ)), .sl τ 1 (m.up.map (AV.int .i64)), .sl τ 1 (m.out.map (AV.int .i64))]] = ⟨True, .bool true⟩ := sem1_eq  (E := enMp)
theorem p3 : Pure Try.prog 3 g3 := by
  refine sem1_pure fun τ m n h2 hpre => ?_
  have hT : Table Try.prog [(8, g8), (10, g10), (9, g9), (11, g11), (12, g12)] := (.cons p8 (.cons p10 (.cons p9 (.cons p11 (.cons p12 .nil)))))
  have hn0 : n ≠ 0 := by omega
  refine SatP.of_body hT hm Try.func3 s3 o3 h2 (by simp) ?_
  have hself : ∀ {α : Type} (x : α), eqB x x = true := fun x => eqB_iff.2 rfl
  rcases szR_spec 1048576 ((m.tree.devices.length + (m.tree.buckets.length + (m.tree.buckets.map enBkt.tot).sum)) + m.rules.length + m.pools.length + m.up.length + m.out.length) with ⟨h1, h3⟩ | ⟨h1, h3⟩
  · have h4 : (0 : Int) ≤ 1048576 - (((m.tree.devices.length + (m.tree.buckets.length + (m.tree.buckets.map enBkt.tot).sum)) + m.rules.length + m.pools.length + m.up.length + m.out.length) : Nat) := by omega
    have h5 : ((m.tree.devices.length + (m.tree.buckets.length + (m.tree.buckets.map enBkt.tot).sum)) + m.rules.length + m.pools.length + m.up.length + m.out.length) ≤ 1048576 := by omega
    have h6 : ¬ (1048576 - ((((m.tree.devices.length + (m.tree.buckets.length + (m.tree.buckets.map enBkt.tot).sum)) + m.rules.length + m.pools.length + m.up.length + m.out.length) : Nat) : Int)) < 0 := by omega
    simp only [Int.natCast_add] at h3 h4 h6
    simp (config := {contextual := true, maxSteps := 2000000, implicitDefEqProofs := false}) [c3, go_sem, bigB, h3, h4, h5, h6, hn0, hself] <;> grind
  · simp (config := {contextual := true, maxSteps := 2000000, implicitDefEqProofs := false}) [c3, go_sem, bigB, h3]
/- laws.FnExactPoolIn -/
def c4 : SCode := (.seq (.reg [⟨(some 2), .box 30 (.tmp 0), none⟩,
   ⟨(some 4), .assign (.const (.bool false)), none⟩])
(.seq (.reg [⟨(some 5), .assign (.const (.int .i64 1048576)), none⟩])
 (.seq (.reg [⟨(some 11), .load 30 (.tmp 2), none⟩,
     ⟨(some 12), .move (.tmp 5), none⟩,
     ⟨(some 13), .call ⟨(.value (.func 8)), #[(.tmp 11), (.tmp 12)], #[30, 3]⟩, none⟩,
     ⟨(some 5), .assign (.tmp 13), none⟩])
  (.seq (.seq (.reg [⟨(some 14), .move (.tmp 5), none⟩,
       ⟨(some 15), .binOp .lss 3 (.tmp 14) (.const (.int .i64 0)) 3, none⟩])
    (.cond (.tmp 15) (.seq (.reg [⟨(some 4), .assign (.const (.bool true)), none⟩])
      .ret)
     .skip))
   (.seq (.reg [⟨(some 17), .load 30 (.tmp 2), none⟩,
       ⟨(some 18), .call ⟨(.value (.func 10)), #[(.tmp 17)], #[30]⟩, none⟩,
       ⟨(some 19), .move (.tmp 1), none⟩,
       ⟨(some 20), .call ⟨(.value (.func 13)), #[(.tmp 18), (.tmp 19)], #[40, 2]⟩, none⟩,
       ⟨(some 16), .move (.tmp 20), none⟩,
       ⟨(some 21), .extract (.tmp 16) 0, none⟩,
       ⟨(some 22), .extract (.tmp 16) 1, none⟩,
       ⟨(some 6), .alloc 47, none⟩,
       ⟨none, .store 47 (.tmp 6) (.tmp 21), none⟩,
       ⟨(some 7), .assign (.tmp 22), none⟩])
    (.seq (.reg [⟨(some 23), .load 30 (.tmp 2), none⟩,
        ⟨(some 24), .call ⟨(.value (.func 10)), #[(.tmp 23)], #[30]⟩, none⟩,
        ⟨(some 8), .alloc 40, none⟩,
        ⟨none, .store 40 (.tmp 8) (.tmp 24), none⟩])
     (.seq (.reg [⟨(some 26), .load 40 (.tmp 8), none⟩,
         ⟨(some 27), .move (.tmp 1), none⟩,
         ⟨(some 28), .call ⟨(.value (.func 14)), #[(.tmp 26), (.tmp 27)], #[40, 2]⟩, none⟩,
         ⟨(some 25), .move (.tmp 28), none⟩,
         ⟨(some 29), .extract (.tmp 25) 0, none⟩,
         ⟨(some 30), .extract (.tmp 25) 1, none⟩,
         ⟨(some 9), .alloc 47, none⟩,
         ⟨none, .store 47 (.tmp 9) (.tmp 29), none⟩,
         ⟨(some 10), .assign (.tmp 30), none⟩])
      (.seq (.seq (.reg [⟨(some 31), .load 47 (.tmp 9), none⟩,
           ⟨(some 32), .load 47 (.tmp 6), none⟩,
           ⟨(some 33), .call ⟨(.value (.func 15)), #[(.tmp 31), (.tmp 32)], #[47, 47]⟩, none⟩,
           ⟨(some 34), .unOp .not 4 (.tmp 33), none⟩,
           ⟨(some 35), .move (.tmp 34), none⟩,
           ⟨(some 36), .move (.tmp 10), (some (35, false))⟩,
           ⟨(some 37), .move (.tmp 7), (some (35, false))⟩,
           ⟨(some 38), .binOp .neq 4 (.tmp 36) (.tmp 37) 4, (some (35, false))⟩,
           ⟨(some 39), .pick (.tmp 35) (.const (.bool true)) (.tmp 38), none⟩])
        (.cond (.tmp 39) (.seq (.reg [⟨(some 4), .assign (.const (.bool false)), none⟩])
          .ret)
         .skip))
       (.seq (.seq (.draw [⟨(some 40), .load 40 (.tmp 8), none⟩,
            ⟨(some 41), .load 30 (.tmp 2), none⟩,
            ⟨(some 42), .call ⟨(.value (.func 10)), #[(.tmp 41)], #[30]⟩, none⟩,
            ⟨(some 43), .call ⟨(.value (.func 12)), #[(.tmp 40), (.tmp 42)], #[40, 40]⟩, none⟩,
            ⟨(some 44), .unOp .not 4 (.tmp 43), none⟩] [[], [], [1], [0, 1, 2], [0, 1, 2, 3]])
         (.cond (.tmp 44) (.seq (.reg [⟨(some 4), .assign (.const (.bool false)), none⟩])
           .ret)
          .skip))
        (.seq (.reg [⟨(some 4), .assign (.const (.bool true)), none⟩])
         .ret))))))))))
theorem s4 : slimF Try.f4 = some (c4, [.t 4], 45) := by kernel_rfl
theorem o4 : okF [(8, g8), (10, g10), (13, g13), (14, g14), (15, g15), (12, g12)] Try.f4 = true := by kernel_rfl
noncomputable def g4 : Fsem := sem2 enMp (En.int .i64) (fun m id => True) (fun n m id => .bool true)
@[go_sem] theorem g4_eq {n τ : Nat} {m : Mp} {id : Int} : g4 n [.agg [.int .i64 m.epoch, .int .i64 m.term, .sl τ 2 (m.tree.devices.map (enDev.av τ)), .sl τ 3 (m.tree.buckets.map (enBkt.av τ)), .sl τ 4 (m.rules.map (enRule.av τ)), .sl τ 6 (m.pools.map (enPool.av τ)), .sl τ 1 (m.up.map (AV.int .i64)), .sl τ 1 (m.out.map (AV.int .i64))], .int .i64 id] = ⟨True, .bool true⟩ := sem2_eq (τ' := 0) (E := enMp) (F := (En.int .i64))
theorem p4 : Pure Try.prog 4 g4 := by
  refine sem2_pure fun τ τ' m id n h2 hpre => ?_
  have hT : Table Try.prog [(8, g8), (10, g10), (13, g13), (14, g14), (15, g15), (12, g12)] := (.cons p8 (.cons p10 (.cons p13 (.cons p14 (.cons p15 (.cons p12 .nil))))))
  have hn0 : n ≠ 0 := by omega
  refine SatP.of_body hT hm Try.func4 s4 o4 h2 (by simp) ?_
  have hself : ∀ {α : Type} (x : α), eqB x x = true := fun x => eqB_iff.2 rfl
  rcases szR_spec 1048576 ((m.tree.devices.length + (m.tree.buckets.length + (m.tree.buckets.map enBkt.tot).sum)) + m.rules.length + m.pools.length + m.up.length + m.out.length) with ⟨h1, h3⟩ | ⟨h1, h3⟩
  · have h4 : (0 : Int) ≤ 1048576 - (((m.tree.devices.length + (m.tree.buckets.length + (m.tree.buckets.map enBkt.tot).sum)) + m.rules.length + m.pools.length + m.up.length + m.out.length) : Nat) := by omega
    have h5 : ((m.tree.devices.length + (m.tree.buckets.length + (m.tree.buckets.map enBkt.tot).sum)) + m.rules.length + m.pools.length + m.up.length + m.out.length) ≤ 1048576 := by omega
    have h6 : ¬ (1048576 - ((((m.tree.devices.length + (m.tree.buckets.length + (m.tree.buckets.map enBkt.tot).sum)) + m.rules.length + m.pools.length + m.up.length + m.out.length) : Nat) : Int)) < 0 := by omega
    simp only [Int.natCast_add] at h3 h4 h6
    simp (config := {contextual := true, maxSteps := 2000000, implicitDefEqProofs := false}) [c4, go_sem, bigB, h3, h4, h5, h6, hn0, hself] <;> grind
  · simp (config := {contextual := true, maxSteps := 2000000, implicitDefEqProofs := false}) [c4, go_sem, bigB, h3]
theorem sat_FnExactMapOk (x0 : Mp) (_ : okMp x0) : SatM Try.prog 2 3 [] [enMp.av 1 x0] [] (.bool true) := by
  have h := p3 2 [enMp.av 1 x0] (by omega)
  have he : g3 2 [enMp.av 1 x0] = ⟨True, .bool true⟩ := g3_eq
  rw [he] at h
  exact h trivial
theorem sat_FnExactPoolIn (x0 : Mp) (x1 : Int) (_ : okMp x0) (_ : (Lit.int .i64 x1).wf = true) : SatM Try.prog 2 4 [] [enMp.av 1 x0, (En.int .i64).av 1 x1] [] (.bool true) := by
  have h := p4 2 [enMp.av 1 x0, (En.int .i64).av 1 x1] (by omega)
  have he : g4 2 [enMp.av 1 x0, (En.int .i64).av 1 x1] = ⟨True, .bool true⟩ := g4_eq
  rw [he] at h
  exact h trivial
end Go.Ve
