/- Contracts of the seat: items of buckets. No condition. -/
import Derived.Test.YtidfijaobkaalaaV4
namespace Go.Ve
open Go.Proofs Go.RowKit
set_option linter.unusedVariables false
set_option linter.unusedSimpArgs false
set_option maxRecDepth 10000
set_option maxHeartbeats 4000000
/- (impl.Tree).itemsOk -/
def c82 : SCode := (.seq (.reg [⟨(some 2), .box 36 (.tmp 0), none⟩,
   ⟨(some 3), .box 115 (.tmp 1), none⟩,
   ⟨(some 4), .assign (.const (.bool false)), none⟩])
(.seq (.reg [⟨(some 8), .makeMap 113 none, none⟩,
    ⟨(some 5), .assign (.tmp 8), none⟩])
 (.seq (.seq (.reg [⟨(some 9), .fieldAddr 115 (.tmp 3) 2, none⟩,
      ⟨(some 10), .load 28 (.tmp 9), none⟩,
      ⟨(some 11), .call ⟨(.builtin .len), #[(.tmp 10)], #[28]⟩, none⟩,
      ⟨(some 12), .move (.const (.int .i64 0)), none⟩])
   (.block 0 (.loop (.seq (.reg [⟨(some 13), .binOp .lss 3 (.tmp 12) (.tmp 11) 3, none⟩])
      (.seq (.cond (.tmp 13) .skip
        (.exit 0))
       (.seq (.block 1 (.seq (.reg [⟨(some 14), .indexAddr 28 (.tmp 10) (.tmp 12), none⟩,
             ⟨(some 15), .load 2 (.tmp 14), none⟩,
             ⟨(some 7), .assign (.tmp 15), none⟩])
          (.reg [⟨(some 16), .move (.tmp 5), none⟩,
             ⟨(some 17), .load 36 (.tmp 2), none⟩,
             ⟨(some 18), .move (.tmp 7), none⟩,
             ⟨(some 19), .call ⟨(.value (.func 121)), #[(.tmp 17), (.tmp 18)], #[36, 2]⟩, none⟩,
             ⟨none, .mapUpdate 113 (.tmp 16) (.tmp 19) (.const (.bool true)), none⟩])))
        (.reg [⟨(some 20), .binOp .add 3 (.tmp 12) (.const (.int .i64 1)) 3, none⟩,
           ⟨(some 12), .move (.tmp 20), none⟩])))))))
  (.seq (.block 2 (.seq (.reg [⟨(some 22), .fieldAddr 115 (.tmp 3) 2, none⟩,
        ⟨(some 23), .load 28 (.tmp 22), none⟩,
        ⟨(some 24), .call ⟨(.builtin .len), #[(.tmp 23)], #[28]⟩, none⟩,
        ⟨(some 25), .binOp .eql 3 (.tmp 24) (.const (.int .i64 0)) 3, none⟩,
        ⟨(some 21), .assign (.tmp 25), none⟩])
     (.cond (.tmp 21) (.seq (.reg [⟨(some 4), .assign (.const (.bool true)), none⟩])
       .ret)
      (.seq (.reg [⟨(some 27), .move (.tmp 5), none⟩,
          ⟨(some 28), .call ⟨(.builtin .len), #[(.tmp 27)], #[113]⟩, none⟩,
          ⟨(some 29), .binOp .gtr 3 (.tmp 28) (.const (.int .i64 1)) 3, none⟩,
          ⟨(some 26), .assign (.tmp 29), none⟩])
       (.cond (.tmp 26) (.seq (.reg [⟨(some 4), .assign (.const (.bool false)), none⟩])
         .ret)
        (.seq (.reg [⟨(some 31), .fieldAddr 115 (.tmp 3) 1, none⟩,
            ⟨(some 32), .load 2 (.tmp 31), none⟩,
            ⟨(some 33), .binOp .eql 2 (.tmp 32) (.const (.int .i64 3)) 2, none⟩,
            ⟨(some 30), .assign (.tmp 33), none⟩])
         (.cond (.tmp 30) (.seq (.reg [⟨(some 34), .move (.tmp 5), none⟩,
              ⟨(some 35), .lookup 113 (.tmp 34) (.const (.int .i64 1)) false, none⟩,
              ⟨(some 36), .move (.tmp 35), none⟩,
              ⟨(some 37), .move (.tmp 5), (some (36, false))⟩,
              ⟨(some 38), .lookup 113 (.tmp 37) (.const (.int .i64 2)) false, (some (36, false))⟩,
              ⟨(some 39), .pick (.tmp 36) (.const (.bool true)) (.tmp 38), none⟩,
              ⟨(some 4), .assign (.tmp 39), none⟩])
           .ret)
          .skip)))))))
   (.seq (.reg [⟨(some 40), .move (.tmp 5), none⟩,
       ⟨(some 41), .fieldAddr 115 (.tmp 3) 1, none⟩,
       ⟨(some 42), .load 2 (.tmp 41), none⟩,
       ⟨(some 43), .binOp .sub 2 (.tmp 42) (.const (.int .i64 1)) 2, none⟩,
       ⟨(some 44), .lookup 113 (.tmp 40) (.tmp 43) false, none⟩,
       ⟨(some 4), .assign (.tmp 44), none⟩])
    .ret)))))
theorem s82 : slimF Try.f82 = some (c82, [.t 4], 45) := by kernel_rfl
theorem o82 : okF [(121, g121)] Try.f82 = true := by kernel_rfl
noncomputable def g82 : Fsem := semT2 enTree enBkt (fun τ t b => τ ≠ 0) (fun n τ t b => .bool (itemsOk t b))
@[go_sem] theorem g82_eq {n τ τ' : Nat} {t : Tree} {b : Bkt} : g82 n [.agg [.sl τ 2 (t.devices.map (enDev.av τ)), .sl τ 3 (t.buckets.map (enBkt.av τ))], .agg [.int .i64 b.id, .int .i64 b.kind, .sl τ' 1 (b.items.map (AV.int .i64))]] = ⟨τ ≠ 0, .bool (itemsOk t b)⟩ := semT2_eq  (E := enTree) (F := enBkt) (seen_Tree)
theorem p82 : Pure Try.prog 82 g82 := by
  refine semT2_pure fun τ τ' t b n h2 hpre => ?_
  have hT : Table Try.prog [(121, g121)] := (.cons p121 .nil)
  have hn0 : n ≠ 0 := by omega
  refine SatP.of_body hT hm Try.func82 s82 o82 h2 (by simp) ?_
  have hp : τ ≠ 0 := hpre
  generalize hks : kinds t b.items [] = ks
  simp (config := {contextual := true, maxSteps := 2000000, implicitDefEqProofs := false}) [c82, go_sem]
  intro hL
  refine VW_listKE [] [2, 3, 5] hT h2 hm b.items [2, 3, 5, 10, 11] (fun pre post (a : List Int) => [.box 36 [.sl τ 2 (t.devices.map (enDev.av τ)), .sl τ 3 (t.buckets.map (enBkt.av τ))], .box 115 [.int .i64 b.id, .int .i64 b.kind, .sl τ' 1 (b.items.map (AV.int .i64))], .mp (kvs a)]) (fun pre post (a : List Int) => [(12, .int .i64 pre.length)]) (fun pre post (a : List Int) => kinds t post a = ks) [] ?_ ?_ ?_ ?_
  · exact hks
  · simp [SubE, SubR, go_sem]
  · rintro a hR
    simp (config := {contextual := true, maxSteps := 2000000, implicitDefEqProofs := false}) [go_sem]
    have ha : a = ks := hR
    subst ha
    simp only [itemsOk, hks]
    grind
  · rintro pre x post a hl hlen hR
    have hw : pre.length + (post.length + 1) ≤ maxLen → IntKind.i64.wrap ((pre.length : Int) + 1) = (pre.length : Int) + 1 := fun h => wrap_next h (by omega)
    have h3 : (0 : Int) ≤ pre.length := by omega
    have h4 : (pre.length : Int) < (pre.length : Int) + ((post.length : Int) + 1) := by omega
    have h5 : ¬ (pre.length : Int) + ((post.length : Int) + 1) ≤ (pre.length : Int) := by omega
    have hL1 : pre.length + (post.length + 1) ≤ maxLen := by omega
    simp only [kinds, List.foldl_cons] at hR
    simp (config := {contextual := true, maxSteps := 2000000, implicitDefEqProofs := false}) [go_sem, hw, hL1, hL1, h3, h4, h5, ← hl, SubE, SubR, hp, kinds, hR]
    exact ⟨_, hR, rfl⟩
def fitsOne (t : Tree) (b : Bkt) (id : Int) : Bool :=
  let k := kindOf t id
  !(decide (b.kind < 3) && decide (k ≠ IntKind.i64.wrap (b.kind - 1))) && !(decide (b.kind = 3) && (decide (k ≠ kindOf t (b.items.headD 0)) || (decide (k ≠ 1) && decide (k ≠ 2))))
def fitsOk (t : Tree) (b : Bkt) : Bool := b.items.all (fitsOne t b)
theorem head_mem {b : Bkt} {pre post : List Int} {x : Int} (h : pre ++ x :: post = b.items) : nth (List.map (AV.int .i64) b.items) 0 = .int .i64 (b.items.headD 0) := by
  rw [← h]
  cases pre <;> simp [nth]
/- spec.l06Fits -/
def c102 : SCode := (.seq (.reg [⟨(some 2), .box 36 (.tmp 0), none⟩,
   ⟨(some 3), .box 115 (.tmp 1), none⟩,
   ⟨(some 4), .assign (.const (.bool false)), none⟩])
(.seq (.seq (.reg [⟨(some 5), .assign (.const (.int .i64 0)), none⟩])
  (.block 0 (.loop (.seq (.seq (.reg [⟨(some 7), .move (.tmp 5), none⟩,
         ⟨(some 8), .fieldAddr 115 (.tmp 3) 2, none⟩,
         ⟨(some 9), .load 28 (.tmp 8), none⟩,
         ⟨(some 10), .call ⟨(.builtin .len), #[(.tmp 9)], #[28]⟩, none⟩,
         ⟨(some 11), .binOp .lss 3 (.tmp 7) (.tmp 10) 3, none⟩])
      (.cond (.tmp 11) .skip
       (.exit 0)))
     (.seq (.block 1 (.seq (.draw [⟨(some 14), .load 36 (.tmp 2), none⟩,
           ⟨(some 15), .fieldAddr 115 (.tmp 3) 2, none⟩,
           ⟨(some 16), .load 28 (.tmp 15), none⟩,
           ⟨(some 17), .move (.tmp 5), none⟩,
           ⟨(some 18), .indexAddr 28 (.tmp 16) (.tmp 17), none⟩,
           ⟨(some 19), .load 2 (.tmp 18), none⟩,
           ⟨(some 20), .call ⟨(.value (.func 130)), #[(.tmp 14), (.tmp 19)], #[36, 2]⟩, none⟩,
           ⟨(some 6), .assign (.tmp 20), none⟩] [[], [], [1], [], [1, 2, 3], [1, 2, 3, 4], [0, 1, 2, 3, 4, 5], [0, 1, 2, 3, 4, 5, 6]])
        (.seq (.seq (.reg [⟨(some 21), .fieldAddr 115 (.tmp 3) 1, none⟩,
             ⟨(some 22), .load 2 (.tmp 21), none⟩,
             ⟨(some 23), .binOp .lss 2 (.tmp 22) (.const (.int .i64 3)) 2, none⟩,
             ⟨(some 24), .move (.tmp 23), none⟩,
             ⟨(some 25), .move (.tmp 6), (some (24, true))⟩,
             ⟨(some 26), .fieldAddr 115 (.tmp 3) 1, (some (24, true))⟩,
             ⟨(some 27), .load 2 (.tmp 26), (some (24, true))⟩,
             ⟨(some 28), .binOp .sub 2 (.tmp 27) (.const (.int .i64 1)) 2, (some (24, true))⟩,
             ⟨(some 29), .binOp .neq 2 (.tmp 25) (.tmp 28) 2, (some (24, true))⟩,
             ⟨(some 30), .pick (.tmp 24) (.tmp 29) (.const (.bool false)), none⟩])
          (.cond (.tmp 30) (.seq (.reg [⟨(some 4), .assign (.const (.bool false)), none⟩])
            .ret)
           .skip))
         (.seq (.draw [⟨(some 31), .fieldAddr 115 (.tmp 3) 1, none⟩,
             ⟨(some 32), .load 2 (.tmp 31), none⟩,
             ⟨(some 33), .binOp .eql 2 (.tmp 32) (.const (.int .i64 3)) 2, none⟩,
             ⟨(some 34), .move (.tmp 33), none⟩,
             ⟨(some 35), .move (.tmp 6), (some (34, true))⟩,
             ⟨(some 36), .load 36 (.tmp 2), (some (34, true))⟩,
             ⟨(some 37), .fieldAddr 115 (.tmp 3) 2, (some (34, true))⟩,
             ⟨(some 38), .load 28 (.tmp 37), (some (34, true))⟩,
             ⟨(some 39), .indexAddr 28 (.tmp 38) (.const (.int .i64 0)), (some (34, true))⟩,
             ⟨(some 40), .load 2 (.tmp 39), (some (34, true))⟩,
             ⟨(some 41), .call ⟨(.value (.func 130)), #[(.tmp 36), (.tmp 40)], #[36, 2]⟩, (some (34, true))⟩,
             ⟨(some 42), .binOp .neq 2 (.tmp 35) (.tmp 41) 2, (some (34, true))⟩,
             ⟨(some 43), .move (.tmp 42), (some (34, true))⟩,
             ⟨(some 44), .move (.tmp 6), (some (43, false))⟩,
             ⟨(some 45), .binOp .neq 2 (.tmp 44) (.const (.int .i64 1)) 2, (some (43, false))⟩,
             ⟨(some 46), .move (.tmp 45), (some (43, false))⟩,
             ⟨(some 47), .move (.tmp 6), (some (46, true))⟩,
             ⟨(some 48), .binOp .neq 2 (.tmp 47) (.const (.int .i64 2)) 2, (some (46, true))⟩,
             ⟨(some 49), .pick (.tmp 46) (.tmp 48) (.const (.bool false)), (some (43, false))⟩,
             ⟨(some 50), .pick (.tmp 43) (.const (.bool true)) (.tmp 49), (some (34, true))⟩,
             ⟨(some 51), .pick (.tmp 34) (.tmp 50) (.const (.bool false)), none⟩] [[], [0], [0, 1], [0, 1, 2], [0, 1, 2, 3], [0, 1, 2, 3], [0, 1, 2, 3], [0, 1, 2, 3, 6], [0, 1, 2, 3, 6, 7], [0, 1, 2, 3, 6, 7, 8], [0, 1, 2, 3, 5, 6, 7, 8, 9], [0, 1, 2, 3, 4, 5, 6, 7, 8, 9, 10], [0, 1, 2, 3, 4, 5, 6, 7, 8, 9, 10, 11], [0, 1, 2, 3, 4, 5, 6, 7, 8, 9, 10, 11, 12], [0, 1, 2, 3, 4, 5, 6, 7, 8, 9, 10, 11, 12, 13], [0, 1, 2, 3, 4, 5, 6, 7, 8, 9, 10, 11, 12, 13, 14], [0, 1, 2, 3, 4, 5, 6, 7, 8, 9, 10, 11, 12, 13, 14, 15], [0, 1, 2, 3, 4, 5, 6, 7, 8, 9, 10, 11, 12, 13, 14, 15, 16], [0, 1, 2, 3, 4, 5, 6, 7, 8, 9, 10, 11, 12, 13, 14, 15, 16, 17], [0, 1, 2, 3, 4, 5, 6, 7, 8, 9, 10, 11, 12, 13, 14, 15, 16, 17, 18], [0, 1, 2, 3, 4, 5, 6, 7, 8, 9, 10, 11, 12, 13, 14, 15, 16, 17, 18, 19]])
          (.cond (.tmp 51) (.seq (.reg [⟨(some 4), .assign (.const (.bool false)), none⟩])
            .ret)
           .skip)))))
      (.reg [⟨(some 12), .move (.tmp 5), none⟩,
         ⟨(some 13), .binOp .add 3 (.tmp 12) (.const (.int .i64 1)) 3, none⟩,
         ⟨(some 5), .assign (.tmp 13), none⟩]))))))
 (.seq (.reg [⟨(some 4), .assign (.const (.bool true)), none⟩])
  .ret)))
theorem s102 : slimF Try.f102 = some (c102, [.t 4], 52) := by kernel_rfl
theorem o102 : okF [(130, g130)] Try.f102 = true := by kernel_rfl
noncomputable def g102 : Fsem := sem2 enTree enBkt (fun t b => True) (fun n t b => .bool (fitsOk t b))
@[go_sem] theorem g102_eq {n τ τ' : Nat} {t : Tree} {b : Bkt} : g102 n [.agg [.sl τ 2 (t.devices.map (enDev.av τ)), .sl τ 3 (t.buckets.map (enBkt.av τ))], .agg [.int .i64 b.id, .int .i64 b.kind, .sl τ' 1 (b.items.map (AV.int .i64))]] = ⟨True, .bool (fitsOk t b)⟩ := sem2_eq  (E := enTree) (F := enBkt)
theorem p102 : Pure Try.prog 102 g102 := by
  refine sem2_pure fun τ τ' t b n h2 hpre => ?_
  have hT : Table Try.prog [(130, g130)] := (.cons p130 .nil)
  have hn0 : n ≠ 0 := by omega
  refine SatP.of_body hT hm Try.func102 s102 o102 h2 (by simp) ?_
  simp only [fitsOk]
  generalize hr : b.items.all (fitsOne t b) = r
  simp (config := {contextual := true, maxSteps := 2000000, implicitDefEqProofs := false}) [c102, go_sem]
  refine VW_listK hT h2 hm b.items [2, 3] (fun pre post (u0 : Unit) => [(5, .int .i64 pre.length)]) (fun pre post (u0 : Unit) => post.all (fitsOne t b) = r) () ?_ ?_ ?_ ?_
  · exact hr
  · simp [SubI, go_sem]
  · rintro u0 hR
    simp (config := {contextual := true, maxSteps := 2000000, implicitDefEqProofs := false}) [go_sem]
    simp at hR; grind
  · rintro pre x post u0 hl hlen hR
    have hw : pre.length + (post.length + 1) ≤ maxLen → IntKind.i64.wrap ((pre.length : Int) + 1) = (pre.length : Int) + 1 := fun h => wrap_next h (by omega)
    have h3 : (0 : Int) ≤ pre.length := by omega
    have h4 : (pre.length : Int) < (pre.length : Int) + ((post.length : Int) + 1) := by omega
    have h5 : ¬ (pre.length : Int) + ((post.length : Int) + 1) ≤ (pre.length : Int) := by omega
    have hh := head_mem hl
    have hn : nth (List.map (AV.int .i64) b.items) pre.length = .int .i64 x := by rw [← hl]; simp [go_sem]
    have hlt : (pre.length : Int) < (b.items.length : Int) := by omega
    have hlt2 : ¬ (b.items.length : Int) ≤ (pre.length : Int) := by omega
    have h0 : (0 : Int) < (b.items.length : Int) := by omega
    have h01 : 0 < b.items.length := by omega
    rw [hlen] at hw
    simp only [List.all_cons, fitsOne] at hR
    simp (config := {contextual := true, maxSteps := 2000000, implicitDefEqProofs := false}) [go_sem, hw, h3, hlt, hlt2, hh, hn, h0, h01, SubI]
    grind
end Go.Ve
