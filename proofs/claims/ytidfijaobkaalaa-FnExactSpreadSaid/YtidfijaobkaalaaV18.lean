/- The law of spreads. No condition. -/
import Derived.Test.YtidfijaobkaalaaV17
namespace Go.Ve
open Go.Proofs Go.RowKit
set_option linter.unusedVariables false
set_option linter.unusedSimpArgs false
set_option maxRecDepth 10000
set_option maxHeartbeats 4000000
/- laws.FnExactSpread -/
def c7 : SCode := (.seq (.reg [⟨(some 2), .box 25 (.tmp 0), none⟩,
   ⟨(some 4), .assign (.const (.bool false)), none⟩])
(.seq (.reg [⟨(some 5), .assign (.const (.int .i64 1048576)), none⟩])
 (.seq (.reg [⟨(some 12), .load 25 (.tmp 2), none⟩,
     ⟨(some 13), .move (.tmp 5), none⟩,
     ⟨(some 14), .call ⟨(.value (.func 18)), #[(.tmp 12), (.tmp 13)], #[25, 3]⟩, none⟩,
     ⟨(some 5), .assign (.tmp 14), none⟩])
  (.seq (.seq (.reg [⟨(some 15), .move (.tmp 5), none⟩,
       ⟨(some 16), .binOp .lss 3 (.tmp 15) (.const (.int .i64 0)) 3, none⟩])
    (.cond (.tmp 16) (.seq (.reg [⟨(some 4), .assign (.const (.bool true)), none⟩])
      .ret)
     .skip))
   (.seq (.reg [⟨(some 17), .move (.tmp 1), none⟩,
       ⟨(some 18), .move (.tmp 5), none⟩,
       ⟨(some 19), .call ⟨(.value (.func 19)), #[(.tmp 17), (.tmp 18)], #[53, 3]⟩, none⟩,
       ⟨(some 5), .assign (.tmp 19), none⟩])
    (.seq (.seq (.reg [⟨(some 20), .move (.tmp 5), none⟩,
         ⟨(some 21), .binOp .lss 3 (.tmp 20) (.const (.int .i64 0)) 3, none⟩])
      (.cond (.tmp 21) (.seq (.reg [⟨(some 4), .assign (.const (.bool true)), none⟩])
        .ret)
       .skip))
     (.seq (.reg [⟨(some 23), .load 25 (.tmp 2), none⟩,
         ⟨(some 24), .call ⟨(.value (.func 21)), #[(.tmp 23)], #[25]⟩, none⟩,
         ⟨(some 25), .move (.tmp 1), none⟩,
         ⟨(some 26), .call ⟨(.value (.func 22)), #[(.tmp 25)], #[53]⟩, none⟩,
         ⟨(some 27), .call ⟨(.value (.func 31)), #[(.tmp 24), (.tmp 26)], #[36, 53]⟩, none⟩,
         ⟨(some 22), .move (.tmp 27), none⟩,
         ⟨(some 28), .extract (.tmp 22) 0, none⟩,
         ⟨(some 29), .extract (.tmp 22) 1, none⟩,
         ⟨(some 6), .assign (.tmp 28), none⟩,
         ⟨(some 7), .assign (.tmp 29), none⟩])
      (.seq (.reg [⟨(some 30), .load 25 (.tmp 2), none⟩,
          ⟨(some 31), .call ⟨(.value (.func 21)), #[(.tmp 30)], #[25]⟩, none⟩,
          ⟨(some 8), .alloc 36, none⟩,
          ⟨none, .store 36 (.tmp 8) (.tmp 31), none⟩])
       (.seq (.reg [⟨(some 32), .move (.tmp 1), none⟩,
           ⟨(some 33), .call ⟨(.value (.func 22)), #[(.tmp 32)], #[53]⟩, none⟩,
           ⟨(some 9), .assign (.tmp 33), none⟩])
        (.seq (.reg [⟨(some 35), .load 36 (.tmp 8), none⟩,
            ⟨(some 36), .move (.tmp 9), none⟩,
            ⟨(some 37), .call ⟨(.value (.func 32)), #[(.tmp 35), (.tmp 36)], #[36, 53]⟩, none⟩,
            ⟨(some 34), .move (.tmp 37), none⟩,
            ⟨(some 38), .extract (.tmp 34) 0, none⟩,
            ⟨(some 39), .extract (.tmp 34) 1, none⟩,
            ⟨(some 10), .assign (.tmp 38), none⟩,
            ⟨(some 11), .assign (.tmp 39), none⟩])
         (.seq (.seq (.reg [⟨(some 40), .move (.tmp 10), none⟩,
              ⟨(some 41), .move (.tmp 6), none⟩,
              ⟨(some 42), .binOp .neq 2 (.tmp 40) (.tmp 41) 2, none⟩,
              ⟨(some 43), .move (.tmp 42), none⟩,
              ⟨(some 44), .move (.tmp 11), (some (43, false))⟩,
              ⟨(some 45), .move (.tmp 7), (some (43, false))⟩,
              ⟨(some 46), .binOp .neq 2 (.tmp 44) (.tmp 45) 2, (some (43, false))⟩,
              ⟨(some 47), .pick (.tmp 43) (.const (.bool true)) (.tmp 46), none⟩])
           (.cond (.tmp 47) (.seq (.reg [⟨(some 4), .assign (.const (.bool false)), none⟩])
             .ret)
            .skip))
          (.seq (.seq (.draw [⟨(some 48), .load 36 (.tmp 8), none⟩,
               ⟨(some 49), .load 25 (.tmp 2), none⟩,
               ⟨(some 50), .call ⟨(.value (.func 21)), #[(.tmp 49)], #[25]⟩, none⟩,
               ⟨(some 51), .call ⟨(.value (.func 25)), #[(.tmp 48), (.tmp 50)], #[36, 36]⟩, none⟩,
               ⟨(some 52), .unOp .not 4 (.tmp 51), none⟩] [[], [], [1], [0, 1, 2], [0, 1, 2, 3]])
            (.cond (.tmp 52) (.seq (.reg [⟨(some 4), .assign (.const (.bool false)), none⟩])
              .ret)
             .skip))
           (.seq (.seq (.reg [⟨(some 53), .move (.tmp 9), none⟩,
                ⟨(some 54), .move (.tmp 1), none⟩,
                ⟨(some 55), .call ⟨(.value (.func 22)), #[(.tmp 54)], #[53]⟩, none⟩,
                ⟨(some 56), .call ⟨(.value (.func 26)), #[(.tmp 53), (.tmp 55)], #[53, 53]⟩, none⟩,
                ⟨(some 57), .unOp .not 4 (.tmp 56), none⟩])
             (.cond (.tmp 57) (.seq (.reg [⟨(some 4), .assign (.const (.bool false)), none⟩])
               .ret)
              .skip))
            (.seq (.reg [⟨(some 4), .assign (.const (.bool true)), none⟩])
             .ret))))))))))))))
theorem s7 : slimF Try.f7 = some (c7, [.t 4], 58) := by kernel_rfl
theorem o7 : okF [(18, g18), (19, g19), (21, g21), (22, g22), (31, g31), (32, g32), (25, g25), (26, g26)] Try.f7 = true := by kernel_rfl
noncomputable def g7 : Fsem := sem2 enTree (En.int .i64).list.list (fun x y => True) (fun n x y => .bool true)
@[go_sem] theorem g7_eq {n τ τ' : Nat} {x : Tree} {y : List (List Int)} : g7 n [.agg [.sl τ 2 (x.devices.map (enDev.av τ)), .sl τ 3 (x.buckets.map (enBkt.av τ))], .sl τ' 1 (y.map ((En.int .i64).list.av τ'))] = ⟨True, .bool true⟩ := sem2_eq  (E := enTree) (F := (En.int .i64).list.list)
theorem p7 : Pure Try.prog 7 g7 := by
  refine sem2_pure fun τ τ' x y n h2 hpre => ?_
  have hT : Table Try.prog [(18, g18), (19, g19), (21, g21), (22, g22), (31, g31), (32, g32), (25, g25), (26, g26)] := (.cons p18 (.cons p19 (.cons p21 (.cons p22 (.cons p31 (.cons p32 (.cons p25 (.cons p26 .nil))))))))
  have hn0 : n ≠ 0 := by omega
  refine SatP.of_body hT hm Try.func7 s7 o7 h2 (by simp) ?_
  have hself : ∀ {α : Type} (x : α), eqB x x = true := fun x => eqB_iff.2 rfl
  generalize hta : (x.devices.length + (x.buckets.length + (x.buckets.map enBkt.tot).sum)) = ta
  generalize htb : (y.length + (y.map (En.int .i64).list.tot).sum) = tb
  rcases szR_spec 1048576 ta with ⟨h1, h3⟩ | ⟨h1, h3⟩
  · have h4 : (0 : Int) ≤ 1048576 - (ta : Nat) := by omega
    have h4' : 1048576 - ((ta : Nat) : Int) ≤ 4611686018427387904 := by omega
    have h5 : ta ≤ 1048576 := by omega
    have h6 : ¬ (1048576 - ((ta : Nat) : Int)) < 0 := by omega
    rcases szR_spec (1048576 - (ta : Int)) tb with ⟨k1, k3⟩ | ⟨k1, k3⟩
    · have k4 : (0 : Int) ≤ 1048576 - (ta : Int) - (tb : Nat) := by omega
      have k5 : tb ≤ 1048576 := by omega
      have k6 : ¬ (1048576 - (ta : Int) - ((tb : Nat) : Int)) < 0 := by omega
      simp (config := {contextual := true, maxSteps := 2000000, implicitDefEqProofs := false}) [c7, go_sem, bigB, hta, htb, h3, h4, h4', h5, h6, k3, k4, k5, k6, hn0, hself] <;> grind
    · simp (config := {contextual := true, maxSteps := 2000000, implicitDefEqProofs := false}) [c7, go_sem, bigB, hta, htb, h3, h4, h4', h5, h6, k3, hn0, hself] <;> grind
  · simp (config := {contextual := true, maxSteps := 2000000, implicitDefEqProofs := false}) [c7, go_sem, bigB, hta, h3] <;> grind
theorem sat_FnExactSpread (x0 : Tree) (x1 : List (List Int)) (_ : okTree x0) (_ : (x1.length ≤ maxLen ∧ x1.length * 24 ≤ 140737488351232 ∧ ∀ y1 ∈ x1, (y1.length ≤ maxLen ∧ y1.length * 8 ≤ 140737488351232 ∧ ∀ y2 ∈ y1, (Lit.int .i64 y2).wf = true))) : SatM Try.prog 2 7 [] [enTree.av 1 x0, (En.int .i64).list.list.av 1 x1] [] (.bool true) := by
  have h := p7 2 [enTree.av 1 x0, (En.int .i64).list.list.av 1 x1] (by omega)
  have he : g7 2 [enTree.av 1 x0, (En.int .i64).list.list.av 1 x1] = ⟨True, .bool true⟩ := g7_eq
  rw [he] at h
  exact h trivial
end Go.Ve
