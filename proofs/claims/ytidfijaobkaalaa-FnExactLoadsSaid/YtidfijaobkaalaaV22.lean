/- The law of loads. No condition. -/
import Derived.Test.YtidfijaobkaalaaV21
import Derived.Test.YtidfijaobkaalaaVM
namespace Go.Ve
open Go.Proofs Go.RowKit
set_option linter.unusedVariables false
set_option linter.unusedSimpArgs false
set_option maxRecDepth 10000
set_option maxHeartbeats 4000000
def mTree (x : Tree) : AV := .agg [.sl 1 2 (x.devices.map fun _ => .agg [.leaf, .leaf]), .sl 1 3 (x.buckets.map fun b => .agg [.leaf, .leaf, .sl 1 1 (b.items.map fun _ => .leaf)])]
theorem lfTree {μ : Nat} {x : Tree} : LfV μ (.agg [.sl μ 2 (x.devices.map (enDev.av μ)), .sl μ 3 (x.buckets.map (enBkt.av μ))]) (mTree x) := by
  refine lfV_agg ⟨Lf.map fun a _ => ?_, Lf.map fun a _ => ?_, trivial⟩
  · simp only [go_sem]
    exact lfE_agg ⟨.int .., .int .., trivial⟩
  · simp only [go_sem]
    exact lfE_agg ⟨.int .., .int .., Lf.map fun b _ => lfE_one rfl rfl (.int ..), trivial⟩
theorem cmTree : ∀ {l : List Bkt}, 0 ≤ ((l.map fun b : Bkt => AV.agg [.leaf, .leaf, .sl 1 1 (b.items.map fun _ => .leaf)]).map cm69).sum ∧ ((l.map fun b : Bkt => AV.agg [.leaf, .leaf, .sl 1 1 (b.items.map fun _ => .leaf)]).map cm69).sum ≤ 2 * ((l.length + (l.map enBkt.tot).sum : Nat) : Int)
  | [] => by simp
  | b :: l => by
    have := cmTree (l := l)
    have hb : cm69 (.agg [.leaf, .leaf, .sl 1 1 (b.items.map fun _ => .leaf)]) = 2 + (b.items.length : Int) := by simp [cm69]
    have ht : enBkt.tot b = b.items.length := tot_Bkt
    simp only [List.map_cons, List.sum_cons, List.length_cons, hb, ht] at *
    omega
theorem bktsM {l : List Bkt} : ∀ x ∈ (l.map fun b : Bkt => AV.agg [.leaf, .leaf, .sl 1 1 (b.items.map fun _ => .leaf)]), ∃ ys, x = .agg [.leaf, .leaf, .sl 1 1 ys] ∧ ∀ y ∈ ys, y = .leaf := fun x hx => by
  obtain ⟨b, _, rfl⟩ := List.mem_map.1 hx
  refine ⟨_, rfl, fun y hy => ?_⟩
  obtain ⟨_, _, rfl⟩ := List.mem_map.1 hy
  rfl
theorem constM {α : Type} {l : List α} {c : AV} : ∀ x ∈ (l.map fun _ => c), x = c := fun x hx => by
  obtain ⟨_, _, rfl⟩ := List.mem_map.1 hx
  rfl
def mRows (p : List (List Int)) : AV := .sl 1 1 (p.map fun r => .sl 1 1 (r.map fun _ => .leaf))
theorem lfRows {μ : Nat} {p : List (List Int)} : LfV μ (.sl μ 1 (p.map ((En.int .i64).list.av μ))) (mRows p) := by
  refine .c _ _ (Lf.map fun a _ => ?_)
  simp only [go_sem]
  exact lfE_one rfl rfl (Lf.map fun b _ => lfE_one rfl rfl (.int ..))
theorem cmRows : ∀ {l : List (List Int)}, 0 ≤ ((l.map fun r : List Int => AV.sl 1 1 (r.map fun _ => .leaf)).map cm28).sum ∧ ((l.map fun r : List Int => AV.sl 1 1 (r.map fun _ => .leaf)).map cm28).sum ≤ ((l.length + (l.map (En.int .i64).list.tot).sum : Nat) : Int)
  | [] => by simp
  | b :: l => by
    have := cmRows (l := l)
    have hb : cm28 (.sl 1 1 (b.map fun _ => .leaf)) = (b.length : Int) := by simp [cm28]
    have ht : (En.int .i64).list.tot b = b.length + (b.map (En.int .i64).tot).sum := tot_list
    simp only [List.map_cons, List.sum_cons, List.length_cons, hb, ht] at *
    omega
theorem rowsM {l : List (List Int)} : ∀ x ∈ (l.map fun r : List Int => AV.sl 1 1 (r.map fun _ => .leaf)), ∃ ys, x = .sl 1 1 ys ∧ ∀ y ∈ ys, y = .leaf := fun x hx => by
  obtain ⟨b, _, rfl⟩ := List.mem_map.1 hx
  refine ⟨_, rfl, fun y hy => ?_⟩
  obtain ⟨_, _, rfl⟩ := List.mem_map.1 hy
  rfl

theorem markTree_ok {x : Tree} {k : Int} (hk : 0 ≤ k ∧ k ≤ 1099511627776) (ht : x.devices.length + (x.buckets.length + (x.buckets.map enBkt.tot).sum) ≤ 1048576) : ∃ K, MSat Try.prog 27 [mTree x, .int .i64 k] (.int .i64 K) ∧ k ≤ K ∧ K ≤ k + 4194304 := by
  have h1 := (cmTree (l := x.buckets))
  have h2 : (x.devices.map fun _ => AV.agg [.leaf, .leaf]).length = x.devices.length := by simp
  refine ⟨_, pm27 [mTree x, .int .i64 k] ⟨⟨constM, bktsM⟩, hk.1, ?_⟩, ?_, ?_⟩ <;> omega
theorem markRows_ok {p : List (List Int)} {k : Int} (hk : 0 ≤ k ∧ k ≤ 1099511627776) (ht : p.length + (p.map (En.int .i64).list.tot).sum ≤ 1048576) : ∃ K, MSat Try.prog 28 [mRows p, .int .i64 k] (.int .i64 K) ∧ k ≤ K ∧ K ≤ k + 4194304 := by
  have h1 := (cmRows (l := p))
  refine ⟨_, pm28 [mRows p, .int .i64 k] ⟨rowsM, hk.1, ?_⟩, ?_, ?_⟩ <;> omega
theorem lsR_len {t : Tree} {p : List (List Int)} : (lsR t p).length ≤ t.devices.length := by
  unfold lsR
  split
  · simp [loadsOf]
  · simp
/- laws.FnExactLoads -/
def c6 : SCode := (.seq (.reg [⟨(some 2), .box 25 (.tmp 0), none⟩,
   ⟨(some 4), .assign (.const (.bool false)), none⟩])
(.seq (.reg [⟨(some 5), .assign (.const (.int .i64 1048576)), none⟩])
 (.seq (.reg [⟨(some 17), .load 25 (.tmp 2), none⟩,
     ⟨(some 18), .move (.tmp 5), none⟩,
     ⟨(some 19), .call ⟨(.value (.func 18)), #[(.tmp 17), (.tmp 18)], #[25, 3]⟩, none⟩,
     ⟨(some 5), .assign (.tmp 19), none⟩])
  (.seq (.seq (.reg [⟨(some 20), .move (.tmp 5), none⟩,
       ⟨(some 21), .binOp .lss 3 (.tmp 20) (.const (.int .i64 0)) 3, none⟩])
    (.cond (.tmp 21) (.seq (.reg [⟨(some 4), .assign (.const (.bool true)), none⟩])
      .ret)
     .skip))
   (.seq (.reg [⟨(some 22), .move (.tmp 1), none⟩,
       ⟨(some 23), .move (.tmp 5), none⟩,
       ⟨(some 24), .call ⟨(.value (.func 19)), #[(.tmp 22), (.tmp 23)], #[53, 3]⟩, none⟩,
       ⟨(some 5), .assign (.tmp 24), none⟩])
    (.seq (.seq (.reg [⟨(some 25), .move (.tmp 5), none⟩,
         ⟨(some 26), .binOp .lss 3 (.tmp 25) (.const (.int .i64 0)) 3, none⟩])
      (.cond (.tmp 26) (.seq (.reg [⟨(some 4), .assign (.const (.bool true)), none⟩])
        .ret)
       .skip))
     (.seq (.reg [⟨(some 28), .load 25 (.tmp 2), none⟩,
         ⟨(some 29), .call ⟨(.value (.func 21)), #[(.tmp 28)], #[25]⟩, none⟩,
         ⟨(some 30), .move (.tmp 1), none⟩,
         ⟨(some 31), .call ⟨(.value (.func 22)), #[(.tmp 30)], #[53]⟩, none⟩,
         ⟨(some 32), .call ⟨(.value (.func 20)), #[(.tmp 29), (.tmp 31)], #[36, 53]⟩, none⟩,
         ⟨(some 27), .move (.tmp 32), none⟩,
         ⟨(some 33), .extract (.tmp 27) 0, none⟩,
         ⟨(some 34), .extract (.tmp 27) 1, none⟩,
         ⟨(some 6), .assign (.tmp 33), none⟩,
         ⟨(some 7), .assign (.tmp 34), none⟩])
      (.seq (.reg [⟨(some 35), .load 25 (.tmp 2), none⟩,
          ⟨(some 36), .call ⟨(.value (.func 21)), #[(.tmp 35)], #[25]⟩, none⟩,
          ⟨(some 8), .alloc 36, none⟩,
          ⟨none, .store 36 (.tmp 8) (.tmp 36), none⟩])
       (.seq (.reg [⟨(some 37), .move (.tmp 1), none⟩,
           ⟨(some 38), .call ⟨(.value (.func 22)), #[(.tmp 37)], #[53]⟩, none⟩,
           ⟨(some 9), .assign (.tmp 38), none⟩])
        (.seq (.reg [⟨(some 40), .load 36 (.tmp 8), none⟩,
            ⟨(some 41), .move (.tmp 9), none⟩,
            ⟨(some 42), .call ⟨(.value (.func 23)), #[(.tmp 40), (.tmp 41)], #[36, 53]⟩, none⟩,
            ⟨(some 39), .move (.tmp 42), none⟩,
            ⟨(some 43), .extract (.tmp 39) 0, none⟩,
            ⟨(some 44), .extract (.tmp 39) 1, none⟩,
            ⟨(some 10), .assign (.tmp 43), none⟩,
            ⟨(some 11), .assign (.tmp 44), none⟩])
         (.seq (.seq (.reg [⟨(some 45), .move (.tmp 10), none⟩,
              ⟨(some 46), .move (.tmp 6), none⟩,
              ⟨(some 47), .call ⟨(.value (.func 24)), #[(.tmp 45), (.tmp 46)], #[56, 56]⟩, none⟩,
              ⟨(some 48), .unOp .not 4 (.tmp 47), none⟩,
              ⟨(some 49), .move (.tmp 48), none⟩,
              ⟨(some 50), .move (.tmp 11), (some (49, false))⟩,
              ⟨(some 51), .move (.tmp 7), (some (49, false))⟩,
              ⟨(some 52), .binOp .neq 2 (.tmp 50) (.tmp 51) 2, (some (49, false))⟩,
              ⟨(some 53), .pick (.tmp 49) (.const (.bool true)) (.tmp 52), none⟩])
           (.cond (.tmp 53) (.seq (.reg [⟨(some 4), .assign (.const (.bool false)), none⟩])
             .ret)
            .skip))
          (.seq (.seq (.draw [⟨(some 54), .load 36 (.tmp 8), none⟩,
               ⟨(some 55), .load 25 (.tmp 2), none⟩,
               ⟨(some 56), .call ⟨(.value (.func 21)), #[(.tmp 55)], #[25]⟩, none⟩,
               ⟨(some 57), .call ⟨(.value (.func 25)), #[(.tmp 54), (.tmp 56)], #[36, 36]⟩, none⟩,
               ⟨(some 58), .unOp .not 4 (.tmp 57), none⟩] [[], [], [1], [0, 1, 2], [0, 1, 2, 3]])
            (.cond (.tmp 58) (.seq (.reg [⟨(some 4), .assign (.const (.bool false)), none⟩])
              .ret)
             .skip))
           (.seq (.seq (.reg [⟨(some 59), .move (.tmp 9), none⟩,
                ⟨(some 60), .move (.tmp 1), none⟩,
                ⟨(some 61), .call ⟨(.value (.func 22)), #[(.tmp 60)], #[53]⟩, none⟩,
                ⟨(some 62), .call ⟨(.value (.func 26)), #[(.tmp 59), (.tmp 61)], #[53, 53]⟩, none⟩,
                ⟨(some 63), .unOp .not 4 (.tmp 62), none⟩])
             (.cond (.tmp 63) (.seq (.reg [⟨(some 4), .assign (.const (.bool false)), none⟩])
               .ret)
              .skip))
            (.seq (.reg [⟨(some 12), .assign (.const (.int .i64 1)), none⟩])
             (.seq (.reg [⟨(some 64), .load 36 (.tmp 8), none⟩,
                 ⟨(some 65), .move (.tmp 12), none⟩,
                 ⟨(some 66), .call ⟨(.value (.func 27)), #[(.tmp 64), (.tmp 65)], #[36, 3]⟩, none⟩,
                 ⟨(some 12), .assign (.tmp 66), none⟩])
              (.seq (.reg [⟨(some 67), .move (.tmp 9), none⟩,
                  ⟨(some 68), .move (.tmp 12), none⟩,
                  ⟨(some 69), .call ⟨(.value (.func 28)), #[(.tmp 67), (.tmp 68)], #[53, 3]⟩, none⟩,
                  ⟨(some 12), .assign (.tmp 69), none⟩])
               (.seq (.seq (.reg [⟨(some 70), .move (.tmp 12), none⟩,
                    ⟨(some 71), .binOp .lss 3 (.tmp 70) (.const (.int .i64 0)) 3, none⟩,
                    ⟨(some 72), .move (.tmp 71), none⟩,
                    ⟨(some 73), .move (.tmp 10), (some (72, false))⟩,
                    ⟨(some 74), .move (.tmp 6), (some (72, false))⟩,
                    ⟨(some 75), .call ⟨(.value (.func 24)), #[(.tmp 73), (.tmp 74)], #[56, 56]⟩, (some (72, false))⟩,
                    ⟨(some 76), .unOp .not 4 (.tmp 75), (some (72, false))⟩,
                    ⟨(some 77), .pick (.tmp 72) (.const (.bool true)) (.tmp 76), none⟩,
                    ⟨(some 78), .move (.tmp 77), none⟩,
                    ⟨(some 79), .move (.tmp 11), (some (78, false))⟩,
                    ⟨(some 80), .move (.tmp 7), (some (78, false))⟩,
                    ⟨(some 81), .binOp .neq 2 (.tmp 79) (.tmp 80) 2, (some (78, false))⟩,
                    ⟨(some 82), .pick (.tmp 78) (.const (.bool true)) (.tmp 81), none⟩])
                 (.cond (.tmp 82) (.seq (.reg [⟨(some 4), .assign (.const (.bool false)), none⟩])
                   .ret)
                  .skip))
                (.seq (.reg [⟨(some 13), .assign (.const (.int .i64 1)), none⟩])
                 (.seq (.reg [⟨(some 83), .move (.tmp 10), none⟩,
                     ⟨(some 84), .move (.tmp 13), none⟩,
                     ⟨(some 85), .call ⟨(.value (.func 29)), #[(.tmp 83), (.tmp 84)], #[56, 3]⟩, none⟩,
                     ⟨(some 13), .assign (.tmp 85), none⟩])
                  (.seq (.reg [⟨(some 14), .assign (.const (.int .i64 1)), none⟩])
                   (.seq (.reg [⟨(some 86), .move (.tmp 10), none⟩,
                       ⟨(some 87), .move (.tmp 14), none⟩,
                       ⟨(some 88), .call ⟨(.value (.func 30)), #[(.tmp 86), (.tmp 87)], #[56, 3]⟩, none⟩,
                       ⟨(some 14), .assign (.tmp 88), none⟩])
                    (.seq (.seq (.reg [⟨(some 89), .move (.tmp 14), none⟩,
                         ⟨(some 90), .binOp .lss 3 (.tmp 89) (.const (.int .i64 0)) 3, none⟩])
                      (.cond (.tmp 90) (.seq (.reg [⟨(some 4), .assign (.const (.bool false)), none⟩])
                        .ret)
                       .skip))
                     (.seq (.seq (.reg [⟨(some 91), .move (.tmp 14), none⟩,
                          ⟨(some 92), .move (.tmp 13), none⟩,
                          ⟨(some 93), .binOp .neq 3 (.tmp 91) (.tmp 92) 3, none⟩])
                       (.cond (.tmp 93) (.seq (.reg [⟨(some 4), .assign (.const (.bool false)), none⟩])
                         .ret)
                        .skip))
                      (.seq (.reg [⟨(some 95), .load 25 (.tmp 2), none⟩,
                          ⟨(some 96), .call ⟨(.value (.func 21)), #[(.tmp 95)], #[25]⟩, none⟩,
                          ⟨(some 97), .move (.tmp 1), none⟩,
                          ⟨(some 98), .call ⟨(.value (.func 22)), #[(.tmp 97)], #[53]⟩, none⟩,
                          ⟨(some 99), .call ⟨(.value (.func 23)), #[(.tmp 96), (.tmp 98)], #[36, 53]⟩, none⟩,
                          ⟨(some 94), .move (.tmp 99), none⟩,
                          ⟨(some 100), .extract (.tmp 94) 0, none⟩,
                          ⟨(some 101), .extract (.tmp 94) 1, none⟩,
                          ⟨(some 15), .assign (.tmp 100), none⟩,
                          ⟨(some 16), .assign (.tmp 101), none⟩])
                       (.seq (.seq (.reg [⟨(some 102), .move (.tmp 15), none⟩,
                            ⟨(some 103), .move (.tmp 6), none⟩,
                            ⟨(some 104), .call ⟨(.value (.func 24)), #[(.tmp 102), (.tmp 103)], #[56, 56]⟩, none⟩,
                            ⟨(some 105), .unOp .not 4 (.tmp 104), none⟩,
                            ⟨(some 106), .move (.tmp 105), none⟩,
                            ⟨(some 107), .move (.tmp 16), (some (106, false))⟩,
                            ⟨(some 108), .move (.tmp 7), (some (106, false))⟩,
                            ⟨(some 109), .binOp .neq 2 (.tmp 107) (.tmp 108) 2, (some (106, false))⟩,
                            ⟨(some 110), .pick (.tmp 106) (.const (.bool true)) (.tmp 109), none⟩])
                         (.cond (.tmp 110) (.seq (.reg [⟨(some 4), .assign (.const (.bool false)), none⟩])
                           .ret)
                          .skip))
                        (.seq (.reg [⟨(some 14), .assign (.const (.int .i64 1)), none⟩])
                         (.seq (.reg [⟨(some 111), .move (.tmp 10), none⟩,
                             ⟨(some 112), .move (.tmp 14), none⟩,
                             ⟨(some 113), .call ⟨(.value (.func 30)), #[(.tmp 111), (.tmp 112)], #[56, 3]⟩, none⟩,
                             ⟨(some 14), .assign (.tmp 113), none⟩])
                          (.seq (.seq (.reg [⟨(some 114), .move (.tmp 14), none⟩,
                               ⟨(some 115), .binOp .lss 3 (.tmp 114) (.const (.int .i64 0)) 3, none⟩])
                            (.cond (.tmp 115) (.seq (.reg [⟨(some 4), .assign (.const (.bool false)), none⟩])
                              .ret)
                             .skip))
                           (.seq (.seq (.reg [⟨(some 116), .move (.tmp 14), none⟩,
                                ⟨(some 117), .move (.tmp 13), none⟩,
                                ⟨(some 118), .binOp .neq 3 (.tmp 116) (.tmp 117) 3, none⟩])
                             (.cond (.tmp 118) (.seq (.reg [⟨(some 4), .assign (.const (.bool false)), none⟩])
                               .ret)
                              .skip))
                            (.seq (.reg [⟨(some 4), .assign (.const (.bool true)), none⟩])
                             .ret))))))))))))))))))))))))))))))
theorem s6 : slimF Try.f6 = some (c6, [.t 4], 119) := by kernel_rfl
theorem o6 : okF [(18, g18), (19, g19), (21, g21), (22, g22), (20, g20), (24, g24), (25, g25), (26, g26), (30, g30)] Try.f6 = true := by kernel_rfl
theorem law_FnExactLoads (x : Tree) (y : List (List Int)) : LawOk Try.prog 6 [.agg [.sl 1 2 (x.devices.map (enDev.av 1)), .sl 1 3 (x.buckets.map (enBkt.av 1))], .sl 1 1 (y.map ((En.int .i64).list.av 1))] := by
  have hself : ∀ {α : Type} (x : α), eqB x x = true := fun x => eqB_iff.2 rfl
  have hT : Table Try.prog [(18, g18), (19, g19), (21, g21), (22, g22), (20, g20), (24, g24), (25, g25), (26, g26), (30, g30)] := (.cons p18 (.cons p19 (.cons p21 (.cons p22 (.cons p20 (.cons p24 (.cons p25 (.cons p26 (.cons p30 .nil)))))))))
  refine LawOk.of_body Try.func6 s6 o6 (by simp) ?_
  simp only [c6]
  generalize hta : (x.devices.length + (x.buckets.length + (x.buckets.map enBkt.tot).sum)) = ta
  generalize htb : (y.length + (y.map (En.int .i64).list.tot).sum) = tb
  refine VL_step hT hm 2 (by decide) ?_
  simp (config := {contextual := true, maxSteps := 2000000, implicitDefEqProofs := false}) [go_sem]
  try refine And.intro (by omega) ?_
  refine VL_step hT hm 2 (by decide) ?_
  simp (config := {contextual := true, maxSteps := 2000000, implicitDefEqProofs := false}) [go_sem]
  try refine And.intro (by omega) ?_
  rcases szR_spec 1048576 ta with ⟨h1, h3⟩ | ⟨h1, h3⟩
  · have h4 : (0 : Int) ≤ 1048576 - (ta : Nat) := by omega
    have h4' : 1048576 - ((ta : Nat) : Int) ≤ 4611686018427387904 := by omega
    have h5 : ta ≤ 1048576 := by omega
    have h6 : ¬ (1048576 - ((ta : Nat) : Int)) < 0 := by omega
    have h7 : (ta : Int) ≤ 1048576 := by omega
    rcases szR_spec (1048576 - (ta : Int)) tb with ⟨k1, k3⟩ | ⟨k1, k3⟩
    · have k4 : (0 : Int) ≤ 1048576 - (ta : Int) - (tb : Nat) := by omega
      have k5 : tb ≤ 1048576 := by omega
      have k6 : ¬ (1048576 - (ta : Int) - ((tb : Nat) : Int)) < 0 := by omega
      obtain ⟨K1, hs1, b1, b2⟩ := markTree_ok (x := x) (k := 1) (by decide) (by rw [hta]; exact h5)
      obtain ⟨K2, hs2, b3, b4⟩ := markRows_ok (p := y) (k := K1) (by omega) (by rw [htb]; exact k5)
      have hK2 : ¬ K2 < 0 := by omega
      have hll := lsR_len (t := x) (p := y)
      have hll2 : (lsR x y).length ≤ 1048576 := by omega
      have hml : (mkL 1 (lsR x y)).length = (lsR x y).length := mkL_len
      have htk : List.take (lsR x y).length (List.map (enLoad.av 0) (mkL 1 (lsR x y))) = List.map (enLoad.av 0) (mkL 1 (lsR x y)) := by rw [← hml]; exact take_map_len
      have hld : hldL 1 (mkL 1 (lsR x y)) = 1 + 2 * ((lsR x y).length : Int) := hldL_mkL
      have hb0 : 1 + 2 * ((lsR x y).length : Int) ≤ 1152921504606846976 := by omega
      have hb1 : ¬ 1 + 2 * ((lsR x y).length : Int) < 0 := by omega
      have hb2 : (lsR x y).length ≤ (lsR x y).length := Nat.le_refl _
      refine VL_step hT hm 2 (by decide) ?_
      simp (config := {contextual := true, maxSteps := 2000000, implicitDefEqProofs := false}) [go_sem, bigB, hta, htb, h3, h4, h5, h6, k3, k4, k5, k6, hself]
      try refine And.intro (by omega) ?_
      refine VL_step hT hm 2 (by decide) ?_
      simp (config := {contextual := true, maxSteps := 2000000, implicitDefEqProofs := false}) [go_sem, bigB, hta, htb, h3, h4, h5, h6, k3, k4, k5, k6, hself]
      try refine And.intro (by omega) ?_
      refine VL_step hT hm 2 (by decide) ?_
      simp (config := {contextual := true, maxSteps := 2000000, implicitDefEqProofs := false}) [go_sem, bigB, hta, htb, h3, h4, h5, h6, k3, k4, k5, k6, hself]
      try refine And.intro (by omega) ?_
      refine VL_step hT hm 2 (by decide) ?_
      simp (config := {contextual := true, maxSteps := 2000000, implicitDefEqProofs := false}) [go_sem, bigB, hta, htb, h3, h4, h5, h6, k3, k4, k5, k6, hself]
      try refine And.intro (by omega) ?_
      refine VL_step hT hm 2 (by decide) ?_
      simp (config := {contextual := true, maxSteps := 2000000, implicitDefEqProofs := false}) [go_sem, bigB, hta, htb, h3, h4, h5, h6, k3, k4, k5, k6, hself]
      try refine And.intro (by omega) ?_
      refine VL_step hT hm 3 (by decide) ?_
      simp (config := {contextual := true, maxSteps := 2000000, implicitDefEqProofs := false}) [go_sem, bigB, hta, htb, h3, h4, h5, h6, k3, k4, k5, k6, hself]
      try refine And.intro (by omega) ?_
      refine VL_step hT hm 4 (by decide) ?_
      simp (config := {contextual := true, maxSteps := 2000000, implicitDefEqProofs := false}) [go_sem, bigB, hta, htb, h3, h4, h5, h6, k3, k4, k5, k6, hself]
      try refine And.intro (by omega) ?_
      refine VL_keep [2, 1, 6, 7, 8, 9] ?_
      simp (config := {contextual := true, maxSteps := 2000000, implicitDefEqProofs := false}) [go_sem]
      refine VL_step hT hm 2 (by decide) ?_
      simp (config := {contextual := true, maxSteps := 2000000, implicitDefEqProofs := false}) [go_sem, bigB, hta, htb, h3, h4, h5, h6, k3, k4, k5, k6, hself]
      try refine And.intro (by omega) ?_
      refine ⟨23, [], rfl, [], 2, [.row 97 2 ((lsR x y).map (enLoad.av 0))], .tup [.osl 0 2 0 (lsR x y).length, .int .i64 (cdR x y)], Nat.le_refl _, by simp, by simp, by simp [go_sem, posOf], by simpa [go_sem, rinOf, Root.rnp, posOf] using sat_23z (n := 2) (by decide) (τ := 3) (τ' := 4) (t := x) (p := y) (by decide), ?_⟩
      simp (config := {contextual := true, maxSteps := 2000000, implicitDefEqProofs := false}) [go_sem, stOf, putAll, gmap, Root.ren, AV.ren, AV.ren2, AV.ren1, AV.ren0]
      refine VL_step hT hm 2 (by decide) ?_
      simp (config := {contextual := true, maxSteps := 2000000, implicitDefEqProofs := false}) [go_sem, bigB, hta, htb, h3, h4, h5, h6, k3, k4, k5, k6, hself]
      try refine And.intro (by omega) ?_
      refine VL_step hT hm 2 (by decide) ?_
      simp (config := {contextual := true, maxSteps := 2000000, implicitDefEqProofs := false}) [go_sem, bigB, hta, htb, h3, h4, h5, h6, k3, k4, k5, k6, hself]
      try refine And.intro (by omega) ?_
      refine VL_step hT hm 2 (by decide) ?_
      simp (config := {contextual := true, maxSteps := 2000000, implicitDefEqProofs := false}) [go_sem, bigB, hta, htb, h3, h4, h5, h6, k3, k4, k5, k6, hself]
      try refine And.intro (by omega) ?_
      refine VL_keep [2, 1, 6, 7, 8, 9, 10, 11] ?_
      simp (config := {contextual := true, maxSteps := 2000000, implicitDefEqProofs := false}) [go_sem]
      refine VL_step hT hm 2 (by decide) ?_
      simp (config := {contextual := true, maxSteps := 2000000, implicitDefEqProofs := false}) [go_sem, bigB, hta, htb, h3, h4, h5, h6, k3, k4, k5, k6, hself]
      try refine And.intro (by omega) ?_
      refine VL_seq (VL_reg ?_)
      refine VR_one hT 2 (by decide) ?_
      simp (config := {contextual := true, maxSteps := 2000000, implicitDefEqProofs := false}) [go_sem]
      refine VR_one hT 2 (by decide) ?_
      simp (config := {contextual := true, maxSteps := 2000000, implicitDefEqProofs := false}) [go_sem]
      refine VR_mark 3 (by decide) [2, 1, 6, 7, 9, 10, 11] [1] (y := mTree x) (k0 := 1) (k' := K1) rfl rfl rfl lfTree hs1 (by simp [go_sem]) (by simp [gones, NmR, go_sem]) ?_
      simp (config := {contextual := true, maxSteps := 2000000, implicitDefEqProofs := false}) [go_sem, gones]
      refine VR_one hT 2 (by decide) ?_
      simp (config := {contextual := true, maxSteps := 2000000, implicitDefEqProofs := false}) [go_sem]
      refine VR_nil ?_
      simp (config := {contextual := true, maxSteps := 2000000, implicitDefEqProofs := false}) [go_sem]
      refine VL_seq (VL_reg ?_)
      refine VR_one hT 2 (by decide) ?_
      simp (config := {contextual := true, maxSteps := 2000000, implicitDefEqProofs := false}) [go_sem]
      refine VR_one hT 2 (by decide) ?_
      simp (config := {contextual := true, maxSteps := 2000000, implicitDefEqProofs := false}) [go_sem]
      refine VR_mark 4 (by decide) [2, 1, 6, 7, 10, 11] [] (y := mRows y) (k0 := K1) (k' := K2) rfl rfl rfl lfRows hs2 (by simp [go_sem]) (by simp [gones, NmR, go_sem]) ?_
      simp (config := {contextual := true, maxSteps := 2000000, implicitDefEqProofs := false}) [go_sem, gones]
      refine VR_one hT 2 (by decide) ?_
      simp (config := {contextual := true, maxSteps := 2000000, implicitDefEqProofs := false}) [go_sem]
      refine VR_nil ?_
      simp (config := {contextual := true, maxSteps := 2000000, implicitDefEqProofs := false}) [go_sem]
      refine VL_step hT hm 2 (by decide) ?_
      simp (config := {contextual := true, maxSteps := 2000000, implicitDefEqProofs := false}) [go_sem, bigB, hta, htb, h3, h4, h5, h6, k3, k4, k5, k6, hself, hK2]
      try refine And.intro (by omega) ?_
      refine VL_step hT hm 2 (by decide) ?_
      simp (config := {contextual := true, maxSteps := 2000000, implicitDefEqProofs := false}) [go_sem, bigB, hta, htb, h3, h4, h5, h6, k3, k4, k5, k6, hself]
      try refine And.intro (by omega) ?_
      refine VL_step hT hm 2 (by decide) ?_
      simp (config := {contextual := true, maxSteps := 2000000, implicitDefEqProofs := false}) [go_sem, bigB, hta, htb, h3, h4, h5, h6, k3, k4, k5, k6, hself]
      try refine And.intro (by omega) ?_
      refine ⟨29, [], rfl, [2], 2, [.row 97 2 ((mkL 1 (lsR x y)).map (enLoad.av 0))], .int .i64 (1 + 2 * ((lsR x y).length : Int)), Nat.le_refl _, by simp, by simp, by simp [go_sem, posOf], by simpa [go_sem, rinOf, Root.rnp, posOf] using sat_29 (n := 2) (by decide) (μ := 0) (k := 1) (ls := lsR x y) (by decide) (by omega), ?_⟩
      simp (config := {contextual := true, maxSteps := 2000000, implicitDefEqProofs := false}) [go_sem, stOf, putAll, gmap, Root.ren, AV.ren, AV.ren2, AV.ren1, AV.ren0]
      generalize mkL 1 (lsR x y) = ms at *
      refine VL_keep [2, 1, 6, 7, 10, 11, 13] ?_
      simp (config := {contextual := true, maxSteps := 2000000, implicitDefEqProofs := false}) [go_sem]
      refine VL_step hT hm 2 (by decide) ?_
      simp (config := {contextual := true, maxSteps := 2000000, implicitDefEqProofs := false}) [go_sem, bigB, hta, htb, h3, h4, h5, h6, k3, k4, k5, k6, hself]
      try refine And.intro (by omega) ?_
      refine VL_step hT hm 2 (by decide) ?_
      simp (config := {contextual := true, maxSteps := 2000000, implicitDefEqProofs := false}) [go_sem, bigB, hta, htb, h3, h4, h5, h6, k3, k4, k5, k6, hself, hml, htk, hld, hb0, hb1, hb2]
      try refine And.intro (by omega) ?_
      refine VL_step hT hm 2 (by decide) ?_
      simp (config := {contextual := true, maxSteps := 2000000, implicitDefEqProofs := false}) [go_sem, bigB, hta, htb, h3, h4, h5, h6, k3, k4, k5, k6, hself, hml, htk, hld, hb0, hb1, hb2]
      try refine And.intro (by omega) ?_
      refine VL_step hT hm 2 (by decide) ?_
      simp (config := {contextual := true, maxSteps := 2000000, implicitDefEqProofs := false}) [go_sem, bigB, hta, htb, h3, h4, h5, h6, k3, k4, k5, k6, hself, hml, htk, hld, hb0, hb1, hb2]
      try refine And.intro (by omega) ?_
      refine VL_keep [2, 1, 6, 7, 10, 11, 13] ?_
      simp (config := {contextual := true, maxSteps := 2000000, implicitDefEqProofs := false}) [go_sem]
      refine VL_step hT hm 2 (by decide) ?_
      simp (config := {contextual := true, maxSteps := 2000000, implicitDefEqProofs := false}) [go_sem, bigB, hta, htb, h3, h4, h5, h6, k3, k4, k5, k6, hself]
      try refine And.intro (by omega) ?_
      refine ⟨23, [], rfl, [], 2, [.row 97 2 ((lsR x y).map (enLoad.av 0))], .tup [.osl 0 2 0 (lsR x y).length, .int .i64 (cdR x y)], Nat.le_refl _, by simp, by simp, by simp [go_sem, posOf], by simpa [go_sem, rinOf, Root.rnp, posOf] using sat_23z (n := 2) (by decide) (τ := 2) (τ' := 2) (t := x) (p := y) (by decide), ?_⟩
      simp (config := {contextual := true, maxSteps := 2000000, implicitDefEqProofs := false}) [go_sem, stOf, putAll, gmap, Root.ren, AV.ren, AV.ren2, AV.ren1, AV.ren0]
      refine VL_step hT hm 2 (by decide) ?_
      simp (config := {contextual := true, maxSteps := 2000000, implicitDefEqProofs := false}) [go_sem, bigB, hta, htb, h3, h4, h5, h6, k3, k4, k5, k6, hself]
      try refine And.intro (by omega) ?_
      refine VL_step hT hm 2 (by decide) ?_
      simp (config := {contextual := true, maxSteps := 2000000, implicitDefEqProofs := false}) [go_sem, bigB, hta, htb, h3, h4, h5, h6, k3, k4, k5, k6, hself]
      try refine And.intro (by omega) ?_
      refine VL_step hT hm 2 (by decide) ?_
      simp (config := {contextual := true, maxSteps := 2000000, implicitDefEqProofs := false}) [go_sem, bigB, hta, htb, h3, h4, h5, h6, k3, k4, k5, k6, hself, hml, htk, hld, hb0, hb1, hb2]
      try refine And.intro (by omega) ?_
      refine VL_step hT hm 2 (by decide) ?_
      simp (config := {contextual := true, maxSteps := 2000000, implicitDefEqProofs := false}) [go_sem, bigB, hta, htb, h3, h4, h5, h6, k3, k4, k5, k6, hself, hml, htk, hld, hb0, hb1, hb2]
      try refine And.intro (by omega) ?_
      refine VL_step hT hm 2 (by decide) ?_
      simp (config := {contextual := true, maxSteps := 2000000, implicitDefEqProofs := false}) [go_sem, bigB, hta, htb, h3, h4, h5, h6, k3, k4, k5, k6, hself, hml, htk, hld, hb0, hb1, hb2]
      try refine And.intro (by omega) ?_
      refine VL_vc hT hm 2 (by decide) ?_
      simp (config := {contextual := true, maxSteps := 2000000, implicitDefEqProofs := false}) [go_sem]
    · refine VL_step hT hm 2 (by decide) ?_
      simp (config := {contextual := true, maxSteps := 2000000, implicitDefEqProofs := false}) [go_sem, bigB, hta, htb, h3, h4, h5, h6, k3]
      try refine And.intro (by omega) ?_
      refine VL_step hT hm 2 (by decide) ?_
      simp (config := {contextual := true, maxSteps := 2000000, implicitDefEqProofs := false}) [go_sem, bigB, hta, htb, h3, h4, h5, h6, k3]
      try refine And.intro (by omega) ?_
      refine VL_step hT hm 2 (by decide) ?_
      simp (config := {contextual := true, maxSteps := 2000000, implicitDefEqProofs := false}) [go_sem, bigB, hta, htb, h3, h4, h5, h6, k3]
      try refine And.intro (by omega) ?_
      refine VL_step hT hm 2 (by decide) ?_
      simp (config := {contextual := true, maxSteps := 2000000, implicitDefEqProofs := false}) [go_sem, bigB, hta, htb, h3, h4, h5, h6, k3]
      try refine And.intro (by omega) ?_
  · refine VL_step hT hm 2 (by decide) ?_
    simp (config := {contextual := true, maxSteps := 2000000, implicitDefEqProofs := false}) [go_sem, bigB, hta, h3]
    try refine And.intro (by omega) ?_
    refine VL_step hT hm 2 (by decide) ?_
    simp (config := {contextual := true, maxSteps := 2000000, implicitDefEqProofs := false}) [go_sem, bigB, hta, h3]
    try refine And.intro (by omega) ?_
theorem lawz_FnExactLoads (x0 : Tree) (x1 : List (List Int)) (_ : okTree x0) (_ : (x1.length ≤ maxLen ∧ x1.length * 24 ≤ 140737488351232 ∧ ∀ y1 ∈ x1, (y1.length ≤ maxLen ∧ y1.length * 8 ≤ 140737488351232 ∧ ∀ y2 ∈ y1, (Lit.int .i64 y2).wf = true))) : LawOk Try.prog 6 [enTree.av 1 x0, (En.int .i64).list.list.av 1 x1] := law_FnExactLoads x0 x1
end Go.Ve
