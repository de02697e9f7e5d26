/- The laws. No condition. -/
import Derived.Test.YtabpcpoclcmjiaaV5
namespace Go.Ve
open Go.Proofs Go.RowKit
set_option linter.unusedVariables false
set_option linter.unusedSimpArgs false
set_option maxRecDepth 10000
set_option maxHeartbeats 4000000
/- laws.FnExactSameStore -/
def c4 : SCode := (.seq (.reg [⟨(some 2), .box 40 (.tmp 0), none⟩,
   ⟨(some 3), .box 40 (.tmp 1), none⟩,
   ⟨(some 4), .assign (.const (.bool false)), none⟩])
(.seq (.reg [⟨(some 5), .assign (.const (.int .i64 1048576)), none⟩])
 (.seq (.reg [⟨(some 10), .load 40 (.tmp 2), none⟩,
     ⟨(some 11), .move (.tmp 5), none⟩,
     ⟨(some 12), .call ⟨(.value (.func 12)), #[(.tmp 10), (.tmp 11)], #[40, 3]⟩, none⟩,
     ⟨(some 5), .assign (.tmp 12), none⟩])
  (.seq (.seq (.reg [⟨(some 13), .move (.tmp 5), none⟩,
       ⟨(some 14), .binOp .lss 3 (.tmp 13) (.const (.int .i64 0)) 3, none⟩])
    (.cond (.tmp 14) (.seq (.reg [⟨(some 4), .assign (.const (.bool true)), none⟩])
      .ret)
     .skip))
   (.seq (.reg [⟨(some 15), .load 40 (.tmp 3), none⟩,
       ⟨(some 16), .move (.tmp 5), none⟩,
       ⟨(some 17), .call ⟨(.value (.func 12)), #[(.tmp 15), (.tmp 16)], #[40, 3]⟩, none⟩,
       ⟨(some 5), .assign (.tmp 17), none⟩])
    (.seq (.seq (.reg [⟨(some 18), .move (.tmp 5), none⟩,
         ⟨(some 19), .binOp .lss 3 (.tmp 18) (.const (.int .i64 0)) 3, none⟩])
      (.cond (.tmp 19) (.seq (.reg [⟨(some 4), .assign (.const (.bool true)), none⟩])
        .ret)
       .skip))
     (.seq (.draw [⟨(some 20), .load 40 (.tmp 2), none⟩,
         ⟨(some 21), .call ⟨(.value (.func 14)), #[(.tmp 20)], #[40]⟩, none⟩,
         ⟨(some 22), .load 40 (.tmp 3), none⟩,
         ⟨(some 23), .call ⟨(.value (.func 14)), #[(.tmp 22)], #[40]⟩, none⟩,
         ⟨(some 24), .call ⟨(.value (.func 13)), #[(.tmp 21), (.tmp 23)], #[45, 45]⟩, none⟩,
         ⟨(some 6), .assign (.tmp 24), none⟩] [[], [0], [], [0, 1, 2], [0, 1, 2, 3], [0, 1, 2, 3, 4]])
      (.seq (.reg [⟨(some 25), .load 40 (.tmp 2), none⟩,
          ⟨(some 26), .call ⟨(.value (.func 14)), #[(.tmp 25)], #[40]⟩, none⟩,
          ⟨(some 7), .alloc 45, none⟩,
          ⟨none, .store 45 (.tmp 7) (.tmp 26), none⟩])
       (.seq (.reg [⟨(some 27), .load 40 (.tmp 3), none⟩,
           ⟨(some 28), .call ⟨(.value (.func 14)), #[(.tmp 27)], #[40]⟩, none⟩,
           ⟨(some 8), .alloc 45, none⟩,
           ⟨none, .store 45 (.tmp 8) (.tmp 28), none⟩])
        (.seq (.reg [⟨(some 29), .load 45 (.tmp 7), none⟩,
            ⟨(some 30), .load 45 (.tmp 8), none⟩,
            ⟨(some 31), .call ⟨(.value (.func 15)), #[(.tmp 29), (.tmp 30)], #[45, 45]⟩, none⟩,
            ⟨(some 9), .assign (.tmp 31), none⟩])
         (.seq (.seq (.reg [⟨(some 32), .move (.tmp 9), none⟩,
              ⟨(some 33), .move (.tmp 6), none⟩,
              ⟨(some 34), .binOp .neq 4 (.tmp 32) (.tmp 33) 4, none⟩])
           (.cond (.tmp 34) (.seq (.reg [⟨(some 4), .assign (.const (.bool false)), none⟩])
             .ret)
            .skip))
          (.seq (.seq (.draw [⟨(some 35), .load 45 (.tmp 7), none⟩,
               ⟨(some 36), .load 40 (.tmp 2), none⟩,
               ⟨(some 37), .call ⟨(.value (.func 14)), #[(.tmp 36)], #[40]⟩, none⟩,
               ⟨(some 38), .call ⟨(.value (.func 16)), #[(.tmp 35), (.tmp 37)], #[45, 45]⟩, none⟩,
               ⟨(some 39), .unOp .not 4 (.tmp 38), none⟩] [[], [], [1], [0, 1, 2], [0, 1, 2, 3]])
            (.cond (.tmp 39) (.seq (.reg [⟨(some 4), .assign (.const (.bool false)), none⟩])
              .ret)
             .skip))
           (.seq (.seq (.draw [⟨(some 40), .load 45 (.tmp 8), none⟩,
                ⟨(some 41), .load 40 (.tmp 3), none⟩,
                ⟨(some 42), .call ⟨(.value (.func 14)), #[(.tmp 41)], #[40]⟩, none⟩,
                ⟨(some 43), .call ⟨(.value (.func 16)), #[(.tmp 40), (.tmp 42)], #[45, 45]⟩, none⟩,
                ⟨(some 44), .unOp .not 4 (.tmp 43), none⟩] [[], [], [1], [0, 1, 2], [0, 1, 2, 3]])
             (.cond (.tmp 44) (.seq (.reg [⟨(some 4), .assign (.const (.bool false)), none⟩])
               .ret)
              .skip))
            (.seq (.reg [⟨(some 4), .assign (.const (.bool true)), none⟩])
             .ret))))))))))))))
theorem s4 : slimF Try.f4 = some (c4, [.t 4], 45) := by kernel_rfl
theorem o4 : okF [(12, g12), (14, g14), (13, g13), (15, g15), (16, g16)] Try.f4 = true := by kernel_rfl
noncomputable def g4 : Fsem := sem2 enStore enStore (fun x y => okStore x ∧ okStore y) (fun n x y => .bool true)
@[go_sem] theorem g4_eq {n τ τ' : Nat} {x : Store} {y : Store} : g4 n [.agg [.sl τ 12 (x.live.map (enPgSt.av τ)), .sl τ 12 (x.kept.map (enPgSt.av τ))], .agg [.sl τ' 12 (y.live.map (enPgSt.av τ')), .sl τ' 12 (y.kept.map (enPgSt.av τ'))]] = ⟨okStore x ∧ okStore y, .bool true⟩ := sem2_eq  (E := enStore) (F := enStore)
theorem p4 : Pure Try.prog 4 g4 := by
  refine sem2_pure fun τ τ' x y n h2 hpre => ?_
  have hT : Table Try.prog [(12, g12), (14, g14), (13, g13), (15, g15), (16, g16)] := (.cons p12 (.cons p14 (.cons p13 (.cons p15 (.cons p16 .nil)))))
  have hn0 : n ≠ 0 := by omega
  refine SatP.of_body hT hm Try.func4 s4 o4 h2 (by simp) ?_
  have hself : ∀ {α : Type} (x : α), eqB x x = true := fun x => eqB_iff.2 rfl
  have hz1 := ok_zzStore hpre.1
  have hz2 := ok_zzStore hpre.2
  generalize hta : ((x.live.length + (x.live.map enPgSt.tot).sum) + (x.kept.length + (x.kept.map enPgSt.tot).sum)) = ta
  generalize htb : ((y.live.length + (y.live.map enPgSt.tot).sum) + (y.kept.length + (y.kept.map enPgSt.tot).sum)) = tb
  rcases szR_spec 1048576 ta with ⟨h1, h3⟩ | ⟨h1, h3⟩
  · have h4 : (0 : Int) ≤ 1048576 - (ta : Nat) := by omega
    have h4' : 1048576 - ((ta : Nat) : Int) ≤ 4611686018427387904 := by omega
    have h5 : ta ≤ 1048576 := by omega
    have h6 : ¬ (1048576 - ((ta : Nat) : Int)) < 0 := by omega
    rcases szR_spec (1048576 - (ta : Int)) tb with ⟨k1, k3⟩ | ⟨k1, k3⟩
    · have k4 : (0 : Int) ≤ 1048576 - (ta : Int) - (tb : Nat) := by omega
      have k5 : tb ≤ 1048576 := by omega
      have k6 : ¬ (1048576 - (ta : Int) - ((tb : Nat) : Int)) < 0 := by omega
      simp (config := {contextual := true, maxSteps := 2000000, implicitDefEqProofs := false}) [c4, go_sem, bigB, hta, htb, h3, h4, h4', h5, h6, k3, k4, k5, k6, hn0, hself, hz1, hz2] <;> grind
    · simp (config := {contextual := true, maxSteps := 2000000, implicitDefEqProofs := false}) [c4, go_sem, bigB, hta, htb, h3, h4, h4', h5, h6, k3, hn0, hself, hz1, hz2] <;> grind
  · simp (config := {contextual := true, maxSteps := 2000000, implicitDefEqProofs := false}) [c4, go_sem, bigB, hta, h3, hz1, hz2] <;> grind
theorem sat_FnExactSameStore (x0 x1 : Store) (o0 : okStore x0) (o1 : okStore x1) : SatM Try.prog 2 4 [] [enStore.av 1 x0, enStore.av 1 x1] [] (.bool true) := by
  have h := p4 2 [enStore.av 1 x0, enStore.av 1 x1] (by omega)
  have he : g4 2 [enStore.av 1 x0, enStore.av 1 x1] = ⟨okStore x0 ∧ okStore x1, .bool true⟩ := g4_eq
  rw [he] at h
  exact h ⟨o0, o1⟩
end Go.Ve
