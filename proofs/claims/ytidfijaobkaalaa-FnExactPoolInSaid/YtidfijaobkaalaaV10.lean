/- Contracts of the seat: pools found. No condition. -/
import Derived.Test.YtidfijaobkaalaaV9
import Derived.Test.YtidfijaobkaalaaE29
namespace Go.Ve
open Go.Proofs Go.RowKit
set_option linter.unusedVariables false
set_option linter.unusedSimpArgs false
set_option maxRecDepth 10000
set_option maxHeartbeats 4000000
def poolZ : Pool := ⟨0, ⟨0, 0⟩, 0, 0, 0⟩
def poolIn (m : Mp) (id : Int) : Option Pool := if mapOk m then poolO m id else none
theorem eqB_zip {α : Type} : ∀ {l l' : List α}, l.length = l'.length → eqB l l' = (l.zip l').all fun p => eqB p.1 p.2
  | [], [], _ => by simp [eqB]
  | x :: l, y :: l', h => by
    have ih := eqB_zip (l := l) (l' := l') (by simpa using h)
    simp only [List.zip_cons_cons, List.all_cons, ← ih]
    rw [Bool.eq_iff_iff]
    simp [eqB]
theorem eqB_ne_len {α : Type} {l l' : List α} (h : l.length ≠ l'.length) : eqB l l' = false := eqB_not.2 fun h' => h (by rw [h'])
theorem zip_parts2 {α : Type} {l l' : List α} (h : l.length = l'.length) {pre post : List (α × α)} {x : α × α} (hl : pre ++ x :: post = l.zip l') : l = (pre ++ x :: post).map Prod.fst ∧ l' = (pre ++ x :: post).map Prod.snd := by
  rw [hl]
  exact ⟨(List.map_fst_zip (by omega)).symm, (List.map_snd_zip (by omega)).symm⟩
theorem zip_nth {α : Type} {f g : α → AV} {l l' : List α} (h : l.length = l'.length) {pre post : List (α × α)} {x : α × α} (hl : pre ++ x :: post = l.zip l') : nth (l.map f) pre.length = f x.1 ∧ nth (l'.map g) pre.length = g x.2 ∧ l.length = pre.length + (post.length + 1) ∧ l'.length = pre.length + (post.length + 1) := by
  obtain ⟨h1, h2⟩ := zip_parts2 h hl
  refine ⟨?_, ?_, ?_, ?_⟩
  · rw [h1]; simp [nth]
  · rw [h2]; simp [nth]
  · rw [h1]; simp
  · rw [h2]; simp
theorem eqB_Tree {a b : Tree} : eqB a b = (eqB a.devices b.devices && eqB a.buckets b.buckets) := by
  rw [Bool.eq_iff_iff]; simp [eqB, eq_Tree]
theorem eqB_Bkt {a b : Bkt} : eqB a b = (decide (a.id = b.id) && decide (a.kind = b.kind) && eqB a.items b.items) := by
  rw [Bool.eq_iff_iff]; simp [eqB, eq_Bkt, and_assoc]
theorem eqB_Mp {a b : Mp} : eqB a b = (decide (a.epoch = b.epoch) && decide (a.term = b.term) && eqB a.tree b.tree && eqB a.rules b.rules && eqB a.pools b.pools && eqB a.up b.up && eqB a.out b.out) := by
  rw [Bool.eq_iff_iff]; simp [eqB, eq_Mp, and_assoc]
theorem eqB_Dev {a b : Dev} : eqB a b = (decide (a.id = b.id) && decide (a.weight = b.weight)) := by
  rw [Bool.eq_iff_iff]; simp [eqB, eq_Dev]
theorem eqB_Rule {a b : Rule} : eqB a b = (decide (a.id = b.id) && (decide (a.root = b.root) && (decide (a.kind = b.kind) && (a.indep == b.indep)))) := by
  rw [Bool.eq_iff_iff]; simp [eqB, eq_Rule]
theorem eqB_Pool {a b : Pool} : eqB a b = (decide (a.id = b.id) && (decide (a.code.k = b.code.k) && (decide (a.code.m = b.code.m) && (decide (a.min = b.min) && (decide (a.pgs = b.pgs) && decide (a.rule = b.rule)))))) := by
  rw [Bool.eq_iff_iff]; simp [eqB, eq_Pool, eq_Code, and_assoc]

/- impl.PoolIn -/
def c14 : SCode := (.seq (.reg [⟨(some 2), .box 40 (.tmp 0), none⟩,
   ⟨(some 4), .alloc 47, none⟩,
   ⟨(some 5), .assign (.const (.bool false)), none⟩])
(.seq (.seq (.reg [⟨(some 6), .load 40 (.tmp 2), none⟩,
     ⟨(some 7), .call ⟨(.value (.func 11)), #[(.tmp 6)], #[40]⟩, none⟩,
     ⟨(some 8), .unOp .not 4 (.tmp 7), none⟩,
     ⟨(some 9), .move (.tmp 8), none⟩,
     ⟨(some 10), .load 40 (.tmp 2), (some (9, false))⟩,
     ⟨(some 11), .move (.tmp 1), (some (9, false))⟩,
     ⟨(some 12), .call ⟨(.value (.func 49)), #[(.tmp 10), (.tmp 11)], #[40, 2]⟩, (some (9, false))⟩,
     ⟨(some 13), .binOp .eql 83 (.tmp 12) (.const (.pointer none)) 83, (some (9, false))⟩,
     ⟨(some 14), .pick (.tmp 9) (.const (.bool true)) (.tmp 13), none⟩])
  (.cond (.tmp 14) (.seq (.reg [⟨(some 15), .build 47 #[], none⟩,
       ⟨none, .store 47 (.tmp 4) (.tmp 15), none⟩,
       ⟨(some 5), .assign (.const (.bool false)), none⟩])
    .ret)
   .skip))
 (.seq (.reg [⟨(some 16), .load 40 (.tmp 2), none⟩,
     ⟨(some 17), .move (.tmp 1), none⟩,
     ⟨(some 18), .call ⟨(.value (.func 49)), #[(.tmp 16), (.tmp 17)], #[40, 2]⟩, none⟩,
     ⟨(some 19), .nilCheck (.tmp 18), none⟩,
     ⟨(some 20), .load 47 (.tmp 19), none⟩,
     ⟨none, .store 47 (.tmp 4) (.tmp 20), none⟩,
     ⟨(some 5), .assign (.const (.bool true)), none⟩])
  .ret)))
theorem s14 : slimF Try.f14 = some (c14, [.c 4 47, .t 5], 21) := by kernel_rfl
theorem o14 : okF [(11, g11), (49, g49)] Try.f14 = true := by kernel_rfl
noncomputable def g14 : Fsem := semT2 enMp (En.int .i64) (fun τ m id => τ ≠ 0) (fun n τ m id => .tup [.agg [.int .i64 (((poolIn m id).getD poolZ).id), .int .i64 (((poolIn m id).getD poolZ).code.k), .int .i64 (((poolIn m id).getD poolZ).code.m), .int .i64 (((poolIn m id).getD poolZ).min), .int .i64 (((poolIn m id).getD poolZ).pgs), .int .i64 (((poolIn m id).getD poolZ).rule)], .bool (poolIn m id).isSome])
@[go_sem] theorem g14_eq {n τ : Nat} {m : Mp} {id : Int} : g14 n [.agg [.int .i64 m.epoch, .int .i64 m.term, .sl τ 2 (m.tree.devices.map (enDev.av τ)), .sl τ 3 (m.tree.buckets.map (enBkt.av τ)), .sl τ 4 (m.rules.map (enRule.av τ)), .sl τ 6 (m.pools.map (enPool.av τ)), .sl τ 1 (m.up.map (AV.int .i64)), .sl τ 1 (m.out.map (AV.int .i64))], .int .i64 id] = ⟨τ ≠ 0, .tup [.agg [.int .i64 (((poolIn m id).getD poolZ).id), .int .i64 (((poolIn m id).getD poolZ).code.k), .int .i64 (((poolIn m id).getD poolZ).code.m), .int .i64 (((poolIn m id).getD poolZ).min), .int .i64 (((poolIn m id).getD poolZ).pgs), .int .i64 (((poolIn m id).getD poolZ).rule)], .bool (poolIn m id).isSome]⟩ := semT2_eq (τ' := 0) (E := enMp) (F := (En.int .i64)) (seen_Mp)
theorem p14 : Pure Try.prog 14 g14 := by
  refine semT2_pure fun τ τ' m id n h2 hpre => ?_
  have hT : Table Try.prog [(11, g11), (49, g49)] := (.cons p11 (.cons p49 .nil))
  have hn0 : n ≠ 0 := by omega
  refine SatP.of_body hT hm Try.func14 s14 o14 h2 (by simp) ?_
  have hp : τ ≠ 0 := hpre
  cases hm' : mapOk m
  · simp (config := {contextual := true, maxSteps := 2000000, implicitDefEqProofs := false}) [c14, go_sem, hp, hm', poolIn, poolZ]
  · cases hb : poolO m id with
    | none => simp (config := {contextual := true, maxSteps := 2000000, implicitDefEqProofs := false}) [c14, go_sem, hp, hm', poolIn, poolZ, hb]
    | some b => simp (config := {contextual := true, maxSteps := 2000000, implicitDefEqProofs := false}) [c14, go_sem, hp, hm', poolIn, poolZ, hb]
/- spec.PoolIn -/
def c13 : SCode := (.seq (.reg [⟨(some 2), .box 40 (.tmp 0), none⟩,
   ⟨(some 4), .alloc 47, none⟩,
   ⟨(some 5), .assign (.const (.bool false)), none⟩])
(.seq (.seq (.reg [⟨(some 6), .load 40 (.tmp 2), none⟩,
     ⟨(some 7), .call ⟨(.value (.func 36)), #[(.tmp 6)], #[40]⟩, none⟩,
     ⟨(some 8), .unOp .not 4 (.tmp 7), none⟩,
     ⟨(some 9), .move (.tmp 8), none⟩,
     ⟨(some 10), .load 40 (.tmp 2), (some (9, false))⟩,
     ⟨(some 11), .move (.tmp 1), (some (9, false))⟩,
     ⟨(some 12), .call ⟨(.value (.func 48)), #[(.tmp 10), (.tmp 11)], #[40, 2]⟩, (some (9, false))⟩,
     ⟨(some 13), .binOp .lss 3 (.tmp 12) (.const (.int .i64 0)) 3, (some (9, false))⟩,
     ⟨(some 14), .pick (.tmp 9) (.const (.bool true)) (.tmp 13), none⟩])
  (.cond (.tmp 14) (.seq (.reg [⟨(some 15), .build 47 #[], none⟩,
       ⟨none, .store 47 (.tmp 4) (.tmp 15), none⟩,
       ⟨(some 5), .assign (.const (.bool false)), none⟩])
    .ret)
   .skip))
 (.seq (.draw [⟨(some 16), .fieldAddr 40 (.tmp 2) 4, none⟩,
     ⟨(some 17), .load 38 (.tmp 16), none⟩,
     ⟨(some 18), .load 40 (.tmp 2), none⟩,
     ⟨(some 19), .move (.tmp 1), none⟩,
     ⟨(some 20), .call ⟨(.value (.func 48)), #[(.tmp 18), (.tmp 19)], #[40, 2]⟩, none⟩,
     ⟨(some 21), .indexAddr 38 (.tmp 17) (.tmp 20), none⟩,
     ⟨(some 22), .load 47 (.tmp 21), none⟩,
     ⟨none, .store 47 (.tmp 4) (.tmp 22), none⟩,
     ⟨(some 5), .assign (.const (.bool true)), none⟩] [[], [0], [], [], [2, 3], [0, 1, 2, 3, 4], [0, 1, 2, 3, 4, 5], [0, 1, 2, 3, 4, 5, 6], [0, 1, 2, 3, 4, 5, 6, 7]])
  .ret)))
theorem s13 : slimF Try.f13 = some (c13, [.c 4 47, .t 5], 23) := by kernel_rfl
theorem o13 : okF [(36, g36), (48, g48)] Try.f13 = true := by kernel_rfl
noncomputable def g13 : Fsem := sem2 enMp (En.int .i64) (fun m id => True) (fun n m id => .tup [.agg [.int .i64 (((poolIn m id).getD poolZ).id), .int .i64 (((poolIn m id).getD poolZ).code.k), .int .i64 (((poolIn m id).getD poolZ).code.m), .int .i64 (((poolIn m id).getD poolZ).min), .int .i64 (((poolIn m id).getD poolZ).pgs), .int .i64 (((poolIn m id).getD poolZ).rule)], .bool (poolIn m id).isSome])
@[go_sem] theorem g13_eq {n τ : Nat} {m : Mp} {id : Int} : g13 n [.agg [.int .i64 m.epoch, .int .i64 m.term, .sl τ 2 (m.tree.devices.map (enDev.av τ)), .sl τ 3 (m.tree.buckets.map (enBkt.av τ)), .sl τ 4 (m.rules.map (enRule.av τ)), .sl τ 6 (m.pools.map (enPool.av τ)), .sl τ 1 (m.up.map (AV.int .i64)), .sl τ 1 (m.out.map (AV.int .i64))], .int .i64 id] = ⟨True, .tup [.agg [.int .i64 (((poolIn m id).getD poolZ).id), .int .i64 (((poolIn m id).getD poolZ).code.k), .int .i64 (((poolIn m id).getD poolZ).code.m), .int .i64 (((poolIn m id).getD poolZ).min), .int .i64 (((poolIn m id).getD poolZ).pgs), .int .i64 (((poolIn m id).getD poolZ).rule)], .bool (poolIn m id).isSome]⟩ := sem2_eq (τ' := 0) (E := enMp) (F := (En.int .i64))
theorem p13 : Pure Try.prog 13 g13 := by
  refine sem2_pure fun τ τ' m id n h2 hpre => ?_
  have hT : Table Try.prog [(36, g36), (48, g48)] := (.cons p36 (.cons p48 .nil))
  have hn0 : n ≠ 0 := by omega
  refine SatP.of_body hT hm Try.func13 s13 o13 h2 (by simp) ?_
  cases hm' : mapOk m
  · simp (config := {contextual := true, maxSteps := 2000000, implicitDefEqProofs := false}) [c13, go_sem, hm', poolIn, poolZ]
  · rcases idx_spec (fun b : Pool => decide (b.id = id)) m.pools with ⟨h1, hb⟩ | ⟨a, x, b, hl, h2, h3, hb⟩
    · simp (config := {contextual := true, maxSteps := 2000000, implicitDefEqProofs := false}) [c13, go_sem, hm', h1, poolIn, poolO, poolZ, hb]
    · have h4 : (0 : Int) ≤ a.length := by omega
      have h5 : ¬ (a.length : Int) < 0 := by omega
      have h6 : (a.length : Int) < (m.pools.length : Int) := by rw [hl]; simp; omega
      have h7 : nth (List.map (enPool.av τ) m.pools) a.length = enPool.av τ x := by rw [hl]; simp [go_sem]
      simp (config := {contextual := true, maxSteps := 2000000, implicitDefEqProofs := false}) [c13, go_sem, hm', h3, h4, h5, h6, h7, poolIn, poolO, hb]
end Go.Ve
