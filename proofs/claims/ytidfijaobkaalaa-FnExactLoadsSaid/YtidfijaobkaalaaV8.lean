/- Contracts of the seat: rules, pools. No condition. -/
import Derived.Test.YtidfijaobkaalaaV7
namespace Go.Ve
open Go.Proofs Go.RowKit
set_option linter.unusedVariables false
set_option linter.unusedSimpArgs false
set_option maxRecDepth 10000
set_option maxHeartbeats 4000000
def codeOk (c : Code) : Bool := btw c.k 1 4 && btw c.m 0 3
def poolOk (p : Pool) : Bool := btw p.id 1 4 && codeOk p.code && btw p.min p.code.k (p.code.k + p.code.m) && btw p.pgs 1 16 && btw p.rule 1 4
def ruleOk (t : Tree) (r : Rule) : Bool := btw r.id 1 4 && decide (kindOf t r.root = 3) && btw r.kind 0 2
def l08Ok (t : Tree) (r : Rule) : Bool := btw r.id 1 4 && decide (r.root < 0) && decide (kindOf t r.root = 3) && btw r.kind 0 2
theorem wrap_size {c : Code} (h : codeOk c = true) : IntKind.i64.wrap (c.k + c.m) = c.k + c.m := by
  simp only [codeOk, btw, Bool.and_eq_true, decide_eq_true_eq] at h
  exact wrap_ok (by omega) (by omega)
theorem chk_mem {α : Type} {p : Option α → α → Bool} : ∀ {l : List α} {o : Option α}, chk p o l = true → ∀ x ∈ l, ∃ o', p o' x = true
  | [], _, _, x, hx => by cases hx
  | y :: l, o, h, x, hx => by
    simp only [chk, Bool.and_eq_true] at h
    rcases List.mem_cons.1 hx with rfl | hx
    · exact ⟨o, h.1⟩
    · exact chk_mem h.2 x hx
theorem bkt_neg {t : Tree} (h : bktsOk t = true) {b : Bkt} (hb : b ∈ t.buckets) : b.id < 0 ∧ btw b.kind 1 3 = true := by
  simp only [bktsOk, Bool.and_eq_true] at h
  obtain ⟨o, ho⟩ := chk_mem h.1 b hb
  simp only [bkt0, Bool.and_eq_true] at ho
  have h1 := ho.1.1.1
  simp only [btw, Bool.and_eq_true, decide_eq_true_eq] at h1
  exact ⟨by omega, ho.1.1.2⟩
theorem treeOk_parts {t : Tree} (h : treeOk t = true) : devsOk t = true ∧ bktsOk t = true ∧ onceL [] (t.buckets.flatMap (·.items)) = true ∧ t.buckets.all (fitsOk t) = true := by
  simp only [treeOk, Bool.and_eq_true] at h
  exact ⟨h.1.1.1, h.1.1.2, h.1.2, h.2⟩
theorem bktO_some {t : Tree} {id : Int} {b : Bkt} (h : bktO t id = some b) : b ∈ t.buckets ∧ b.id = id := by
  refine ⟨List.mem_of_find?_eq_some h, ?_⟩
  have := List.find?_some h
  simpa using this
theorem kind_neg {t : Tree} (h : treeOk t = true) {id : Int} (hk : kindOf t id = 3) : id < 0 := by
  unfold kindOf at hk
  split at hk
  · omega
  · split at hk
    · rename_i b hb
      obtain ⟨h1, h2⟩ := bktO_some hb
      have := (bkt_neg (treeOk_parts h).2.1 h1).1
      omega
    · omega
theorem l08_eq {t : Tree} {r : Rule} : (treeOk t && l08Ok t r) = (treeOk t && ruleOk t r) := by
  cases h : treeOk t
  · rfl
  · simp only [Bool.true_and, l08Ok, ruleOk]
    by_cases hk : kindOf t r.root = 3
    · have := kind_neg h hk
      simp [hk, this]
    · simp [hk]
def incP (o : Option Int) (x : Int) : Bool := match o with
  | some y => decide (y < x)
  | none => true
def incr (l : List Int) : Bool := chk incP none l
theorem exists_concat {α : Type} (y : α) (l : List α) : ∃ q z, y :: l = q ++ [z] := by
  rcases List.eq_nil_or_concat (y :: l) with h | ⟨q, z, h⟩
  · cases h
  · exact ⟨q, z, by rw [h]; simp⟩
def ruleP (t : Tree) (o : Option Rule) (r : Rule) : Bool := ruleOk t r && (match o with
  | some y => decide (y.id < r.id)
  | none => true)
def rulesOk (m : Mp) : Bool := chk (ruleP m.tree) none m.rules && decide (m.rules.length ≤ 4)
def ruleO (m : Mp) (id : Int) : Option Rule := m.rules.find? (fun r : Rule => decide (r.id = id))
def poolO (m : Mp) (id : Int) : Option Pool := m.pools.find? (fun r : Pool => decide (r.id = id))
def poolP (m : Mp) (o : Option Pool) (p : Pool) : Bool := poolOk p && (match o with
  | some y => decide (y.id < p.id)
  | none => true) && (ruleO m p.rule).isSome
def poolsOk (m : Mp) : Bool := chk (poolP m) none m.pools && decide (m.pools.length ≤ 4)
def nodesOk (t : Tree) (l : List Int) : Bool := incr l && !l.any fun id => decide (devI t id < 0)
def mapOk (m : Mp) : Bool := btw m.epoch 1 60 && btw m.term 0 m.epoch && treeOk m.tree && rulesOk m && poolsOk m && nodesOk m.tree m.up && nodesOk m.tree m.out

/- (impl.Code).size -/
def c123 : SCode := (.seq (.reg [⟨(some 1), .box 45 (.tmp 0), none⟩,
   ⟨(some 2), .assign (.const (.int .i64 0)), none⟩])
(.seq (.reg [⟨(some 3), .fieldAddr 45 (.tmp 1) 0, none⟩,
    ⟨(some 4), .load 2 (.tmp 3), none⟩,
    ⟨(some 5), .fieldAddr 45 (.tmp 1) 1, none⟩,
    ⟨(some 6), .load 2 (.tmp 5), none⟩,
    ⟨(some 7), .binOp .add 2 (.tmp 4) (.tmp 6) 2, none⟩,
    ⟨(some 2), .assign (.tmp 7), none⟩])
 .ret))
theorem s123 : slimF Try.f123 = some (c123, [.t 2], 8) := by kernel_rfl
theorem o123 : okF [] Try.f123 = true := by kernel_rfl
noncomputable def g123 : Fsem := sem1 enCode (fun c => True) (fun n c => .int .i64 (IntKind.i64.wrap (c.k + c.m)))
@[go_sem] theorem g123_eq {n : Nat} {c : Code} : g123 n [.agg [.int .i64 c.k, .int .i64 c.m]] = ⟨True, .int .i64 (IntKind.i64.wrap (c.k + c.m))⟩ := sem1_eq (τ := 0) (E := enCode)
theorem p123 : Pure Try.prog 123 g123 := by
  refine sem1_pure fun τ c n h2 hpre => ?_
  have hT : Table Try.prog [] := .nil
  have hn0 : n ≠ 0 := by omega
  refine SatP.of_body hT hm Try.func123 s123 o123 h2 (by simp) ?_
  simp (config := {contextual := true, maxSteps := 2000000, implicitDefEqProofs := false}) [c123, go_sem]
/- impl.PoolOk -/
def c84 : SCode := (.seq (.reg [⟨(some 1), .box 47 (.tmp 0), none⟩,
   ⟨(some 2), .assign (.const (.bool false)), none⟩])
(.seq (.draw [⟨(some 3), .fieldAddr 47 (.tmp 1) 0, none⟩,
    ⟨(some 4), .load 2 (.tmp 3), none⟩,
    ⟨(some 5), .call ⟨(.value (.func 40)), #[(.tmp 4), (.const (.int .i64 1)), (.const (.int .i64 4))], #[2, 2, 2]⟩, none⟩,
    ⟨(some 6), .move (.tmp 5), none⟩,
    ⟨(some 7), .fieldAddr 47 (.tmp 1) 1, (some (6, true))⟩,
    ⟨(some 8), .load 45 (.tmp 7), (some (6, true))⟩,
    ⟨(some 9), .call ⟨(.value (.func 122)), #[(.tmp 8)], #[45]⟩, (some (6, true))⟩,
    ⟨(some 10), .pick (.tmp 6) (.tmp 9) (.const (.bool false)), none⟩,
    ⟨(some 11), .move (.tmp 10), none⟩,
    ⟨(some 12), .fieldAddr 47 (.tmp 1) 2, (some (11, true))⟩,
    ⟨(some 13), .load 2 (.tmp 12), (some (11, true))⟩,
    ⟨(some 14), .fieldAddr 47 (.tmp 1) 1, (some (11, true))⟩,
    ⟨(some 15), .fieldAddr 45 (.tmp 14) 0, (some (11, true))⟩,
    ⟨(some 16), .load 2 (.tmp 15), (some (11, true))⟩,
    ⟨(some 17), .fieldAddr 47 (.tmp 1) 1, (some (11, true))⟩,
    ⟨(some 18), .load 45 (.tmp 17), (some (11, true))⟩,
    ⟨(some 19), .call ⟨(.value (.func 123)), #[(.tmp 18)], #[45]⟩, (some (11, true))⟩,
    ⟨(some 20), .call ⟨(.value (.func 40)), #[(.tmp 13), (.tmp 16), (.tmp 19)], #[2, 2, 2]⟩, (some (11, true))⟩,
    ⟨(some 21), .pick (.tmp 11) (.tmp 20) (.const (.bool false)), none⟩,
    ⟨(some 22), .move (.tmp 21), none⟩,
    ⟨(some 23), .fieldAddr 47 (.tmp 1) 3, (some (22, true))⟩,
    ⟨(some 24), .load 2 (.tmp 23), (some (22, true))⟩,
    ⟨(some 25), .call ⟨(.value (.func 40)), #[(.tmp 24), (.const (.int .i64 1)), (.const (.int .i64 16))], #[2, 2, 2]⟩, (some (22, true))⟩,
    ⟨(some 26), .pick (.tmp 22) (.tmp 25) (.const (.bool false)), none⟩,
    ⟨(some 27), .move (.tmp 26), none⟩,
    ⟨(some 28), .fieldAddr 47 (.tmp 1) 4, (some (27, true))⟩,
    ⟨(some 29), .load 2 (.tmp 28), (some (27, true))⟩,
    ⟨(some 30), .call ⟨(.value (.func 40)), #[(.tmp 29), (.const (.int .i64 1)), (.const (.int .i64 4))], #[2, 2, 2]⟩, (some (27, true))⟩,
    ⟨(some 31), .pick (.tmp 27) (.tmp 30) (.const (.bool false)), none⟩,
    ⟨(some 2), .assign (.tmp 31), none⟩] [[], [0], [0, 1], [0, 1, 2], [0, 1, 2, 3], [0, 1, 2, 3, 4], [0, 1, 2, 3, 4, 5], [0, 1, 2, 3, 4, 5, 6], [0, 1, 2, 3, 4, 5, 6, 7], [0, 1, 2, 3, 4, 5, 6, 7, 8], [0, 1, 2, 3, 4, 5, 6, 7, 8, 9], [0, 1, 2, 3, 4, 5, 6, 7, 8], [0, 1, 2, 3, 4, 5, 6, 7, 8, 11], [0, 1, 2, 3, 4, 5, 6, 7, 8, 11, 12], [0, 1, 2, 3, 4, 5, 6, 7, 8], [0, 1, 2, 3, 4, 5, 6, 7, 8, 14], [0, 1, 2, 3, 4, 5, 6, 7, 8, 14, 15], [0, 1, 2, 3, 4, 5, 6, 7, 8, 9, 10, 11, 12, 13, 14, 15, 16], [0, 1, 2, 3, 4, 5, 6, 7, 8, 9, 10, 11, 12, 13, 14, 15, 16, 17], [0, 1, 2, 3, 4, 5, 6, 7, 8, 9, 10, 11, 12, 13, 14, 15, 16, 17, 18], [0, 1, 2, 3, 4, 5, 6, 7, 8, 9, 10, 11, 12, 13, 14, 15, 16, 17, 18, 19], [0, 1, 2, 3, 4, 5, 6, 7, 8, 9, 10, 11, 12, 13, 14, 15, 16, 17, 18, 19, 20], [0, 1, 2, 3, 4, 5, 6, 7, 8, 9, 10, 11, 12, 13, 14, 15, 16, 17, 18, 19, 20, 21], [0, 1, 2, 3, 4, 5, 6, 7, 8, 9, 10, 11, 12, 13, 14, 15, 16, 17, 18, 19, 20, 21, 22], [0, 1, 2, 3, 4, 5, 6, 7, 8, 9, 10, 11, 12, 13, 14, 15, 16, 17, 18, 19, 20, 21, 22, 23], [0, 1, 2, 3, 4, 5, 6, 7, 8, 9, 10, 11, 12, 13, 14, 15, 16, 17, 18, 19, 20, 21, 22, 23, 24], [0, 1, 2, 3, 4, 5, 6, 7, 8, 9, 10, 11, 12, 13, 14, 15, 16, 17, 18, 19, 20, 21, 22, 23, 24, 25], [0, 1, 2, 3, 4, 5, 6, 7, 8, 9, 10, 11, 12, 13, 14, 15, 16, 17, 18, 19, 20, 21, 22, 23, 24, 25, 26], [0, 1, 2, 3, 4, 5, 6, 7, 8, 9, 10, 11, 12, 13, 14, 15, 16, 17, 18, 19, 20, 21, 22, 23, 24, 25, 26, 27], [0, 1, 2, 3, 4, 5, 6, 7, 8, 9, 10, 11, 12, 13, 14, 15, 16, 17, 18, 19, 20, 21, 22, 23, 24, 25, 26, 27, 28]])
 .ret))
theorem s84 : slimF Try.f84 = some (c84, [.t 2], 32) := by kernel_rfl
theorem o84 : okF [(40, g40), (122, g122), (123, g123)] Try.f84 = true := by kernel_rfl
noncomputable def g84 : Fsem := sem1 enPool (fun p => True) (fun n p => .bool (poolOk p))
@[go_sem] theorem g84_eq {n : Nat} {p : Pool} : g84 n [.agg [.int .i64 p.id, .int .i64 p.code.k, .int .i64 p.code.m, .int .i64 p.min, .int .i64 p.pgs, .int .i64 p.rule]] = ⟨True, .bool (poolOk p)⟩ := sem1_eq (τ := 0) (E := enPool)
theorem p84 : Pure Try.prog 84 g84 := by
  refine sem1_pure fun τ p n h2 hpre => ?_
  have hT : Table Try.prog [(40, g40), (122, g122), (123, g123)] := (.cons p40 (.cons p122 (.cons p123 .nil)))
  have hn0 : n ≠ 0 := by omega
  refine SatP.of_body hT hm Try.func84 s84 o84 h2 (by simp) ?_
  simp (config := {contextual := true, maxSteps := 2000000, implicitDefEqProofs := false}) [c84, go_sem, poolOk, codeOk]
  cases hc : codeOk p.code
  · simp only [codeOk] at hc
    grind
  · have := wrap_size hc
    simp only [codeOk] at hc
    grind
/- spec.l09OK -/
def c117 : SCode := (.seq (.reg [⟨(some 1), .box 47 (.tmp 0), none⟩,
   ⟨(some 2), .assign (.const (.bool false)), none⟩])
(.seq (.reg [⟨(some 3), .fieldAddr 47 (.tmp 1) 0, none⟩,
    ⟨(some 4), .load 2 (.tmp 3), none⟩,
    ⟨(some 5), .call ⟨(.value (.func 73)), #[(.tmp 4), (.const (.int .i64 1)), (.const (.int .i64 4))], #[2, 2, 2]⟩, none⟩,
    ⟨(some 6), .move (.tmp 5), none⟩,
    ⟨(some 7), .fieldAddr 47 (.tmp 1) 1, (some (6, true))⟩,
    ⟨(some 8), .load 45 (.tmp 7), (some (6, true))⟩,
    ⟨(some 9), .call ⟨(.value (.func 135)), #[(.tmp 8)], #[45]⟩, (some (6, true))⟩,
    ⟨(some 10), .pick (.tmp 6) (.tmp 9) (.const (.bool false)), none⟩,
    ⟨(some 11), .move (.tmp 10), none⟩,
    ⟨(some 12), .fieldAddr 47 (.tmp 1) 2, (some (11, true))⟩,
    ⟨(some 13), .load 2 (.tmp 12), (some (11, true))⟩,
    ⟨(some 14), .fieldAddr 47 (.tmp 1) 1, (some (11, true))⟩,
    ⟨(some 15), .fieldAddr 45 (.tmp 14) 0, (some (11, true))⟩,
    ⟨(some 16), .load 2 (.tmp 15), (some (11, true))⟩,
    ⟨(some 17), .fieldAddr 47 (.tmp 1) 1, (some (11, true))⟩,
    ⟨(some 18), .fieldAddr 45 (.tmp 17) 0, (some (11, true))⟩,
    ⟨(some 19), .load 2 (.tmp 18), (some (11, true))⟩,
    ⟨(some 20), .fieldAddr 47 (.tmp 1) 1, (some (11, true))⟩,
    ⟨(some 21), .fieldAddr 45 (.tmp 20) 1, (some (11, true))⟩,
    ⟨(some 22), .load 2 (.tmp 21), (some (11, true))⟩,
    ⟨(some 23), .binOp .add 2 (.tmp 19) (.tmp 22) 2, (some (11, true))⟩,
    ⟨(some 24), .call ⟨(.value (.func 73)), #[(.tmp 13), (.tmp 16), (.tmp 23)], #[2, 2, 2]⟩, (some (11, true))⟩,
    ⟨(some 25), .pick (.tmp 11) (.tmp 24) (.const (.bool false)), none⟩,
    ⟨(some 26), .move (.tmp 25), none⟩,
    ⟨(some 27), .fieldAddr 47 (.tmp 1) 3, (some (26, true))⟩,
    ⟨(some 28), .load 2 (.tmp 27), (some (26, true))⟩,
    ⟨(some 29), .call ⟨(.value (.func 73)), #[(.tmp 28), (.const (.int .i64 1)), (.const (.int .i64 16))], #[2, 2, 2]⟩, (some (26, true))⟩,
    ⟨(some 30), .pick (.tmp 26) (.tmp 29) (.const (.bool false)), none⟩,
    ⟨(some 31), .move (.tmp 30), none⟩,
    ⟨(some 32), .fieldAddr 47 (.tmp 1) 4, (some (31, true))⟩,
    ⟨(some 33), .load 2 (.tmp 32), (some (31, true))⟩,
    ⟨(some 34), .call ⟨(.value (.func 73)), #[(.tmp 33), (.const (.int .i64 1)), (.const (.int .i64 4))], #[2, 2, 2]⟩, (some (31, true))⟩,
    ⟨(some 35), .pick (.tmp 31) (.tmp 34) (.const (.bool false)), none⟩,
    ⟨(some 2), .assign (.tmp 35), none⟩])
 .ret))
theorem s117 : slimF Try.f117 = some (c117, [.t 2], 36) := by kernel_rfl
theorem o117 : okF [(73, g73), (135, g135)] Try.f117 = true := by kernel_rfl
noncomputable def g117 : Fsem := sem1 enPool (fun p => True) (fun n p => .bool (poolOk p))
@[go_sem] theorem g117_eq {n : Nat} {p : Pool} : g117 n [.agg [.int .i64 p.id, .int .i64 p.code.k, .int .i64 p.code.m, .int .i64 p.min, .int .i64 p.pgs, .int .i64 p.rule]] = ⟨True, .bool (poolOk p)⟩ := sem1_eq (τ := 0) (E := enPool)
theorem p117 : Pure Try.prog 117 g117 := by
  refine sem1_pure fun τ p n h2 hpre => ?_
  have hT : Table Try.prog [(73, g73), (135, g135)] := (.cons p73 (.cons p135 .nil))
  have hn0 : n ≠ 0 := by omega
  refine SatP.of_body hT hm Try.func117 s117 o117 h2 (by simp) ?_
  simp (config := {contextual := true, maxSteps := 2000000, implicitDefEqProofs := false}) [c117, go_sem, poolOk, codeOk]
  cases hc : codeOk p.code
  · simp only [codeOk] at hc
    grind
  · have := wrap_size hc
    simp only [codeOk] at hc
    grind
/- spec.PoolOk -/
def c76 : SCode := (.seq (.reg [⟨(some 1), .box 47 (.tmp 0), none⟩,
   ⟨(some 2), .assign (.const (.bool false)), none⟩])
(.seq (.reg [⟨(some 3), .load 47 (.tmp 1), none⟩,
    ⟨(some 4), .call ⟨(.value (.func 117)), #[(.tmp 3)], #[47]⟩, none⟩,
    ⟨(some 2), .assign (.tmp 4), none⟩])
 .ret))
theorem s76 : slimF Try.f76 = some (c76, [.t 2], 5) := by kernel_rfl
theorem o76 : okF [(117, g117)] Try.f76 = true := by kernel_rfl
noncomputable def g76 : Fsem := sem1 enPool (fun p => True) (fun n p => .bool (poolOk p))
@[go_sem] theorem g76_eq {n : Nat} {p : Pool} : g76 n [.agg [.int .i64 p.id, .int .i64 p.code.k, .int .i64 p.code.m, .int .i64 p.min, .int .i64 p.pgs, .int .i64 p.rule]] = ⟨True, .bool (poolOk p)⟩ := sem1_eq (τ := 0) (E := enPool)
theorem p76 : Pure Try.prog 76 g76 := by
  refine sem1_pure fun τ p n h2 hpre => ?_
  have hT : Table Try.prog [(117, g117)] := (.cons p117 .nil)
  have hn0 : n ≠ 0 := by omega
  refine SatP.of_body hT hm Try.func76 s76 o76 h2 (by simp) ?_
  simp (config := {contextual := true, maxSteps := 2000000, implicitDefEqProofs := false}) [c76, go_sem]
/- impl.ruleOk -/
def c83 : SCode := (.seq (.reg [⟨(some 2), .box 36 (.tmp 0), none⟩,
   ⟨(some 3), .box 87 (.tmp 1), none⟩,
   ⟨(some 4), .assign (.const (.bool false)), none⟩])
(.seq (.reg [⟨(some 5), .fieldAddr 87 (.tmp 3) 0, none⟩,
    ⟨(some 6), .load 2 (.tmp 5), none⟩,
    ⟨(some 7), .call ⟨(.value (.func 40)), #[(.tmp 6), (.const (.int .i64 1)), (.const (.int .i64 4))], #[2, 2, 2]⟩, none⟩,
    ⟨(some 8), .move (.tmp 7), none⟩,
    ⟨(some 9), .load 36 (.tmp 2), (some (8, true))⟩,
    ⟨(some 10), .fieldAddr 87 (.tmp 3) 1, (some (8, true))⟩,
    ⟨(some 11), .load 2 (.tmp 10), (some (8, true))⟩,
    ⟨(some 12), .call ⟨(.value (.func 121)), #[(.tmp 9), (.tmp 11)], #[36, 2]⟩, (some (8, true))⟩,
    ⟨(some 13), .binOp .eql 2 (.tmp 12) (.const (.int .i64 3)) 2, (some (8, true))⟩,
    ⟨(some 14), .pick (.tmp 8) (.tmp 13) (.const (.bool false)), none⟩,
    ⟨(some 15), .move (.tmp 14), none⟩,
    ⟨(some 16), .fieldAddr 87 (.tmp 3) 2, (some (15, true))⟩,
    ⟨(some 17), .load 2 (.tmp 16), (some (15, true))⟩,
    ⟨(some 18), .call ⟨(.value (.func 40)), #[(.tmp 17), (.const (.int .i64 0)), (.const (.int .i64 2))], #[2, 2, 2]⟩, (some (15, true))⟩,
    ⟨(some 19), .pick (.tmp 15) (.tmp 18) (.const (.bool false)), none⟩,
    ⟨(some 4), .assign (.tmp 19), none⟩])
 .ret))
theorem s83 : slimF Try.f83 = some (c83, [.t 4], 20) := by kernel_rfl
theorem o83 : okF [(40, g40), (121, g121)] Try.f83 = true := by kernel_rfl
noncomputable def g83 : Fsem := semT2 enTree enRule (fun τ t r => τ ≠ 0) (fun n τ t r => .bool (ruleOk t r))
@[go_sem] theorem g83_eq {n τ : Nat} {t : Tree} {r : Rule} : g83 n [.agg [.sl τ 2 (t.devices.map (enDev.av τ)), .sl τ 3 (t.buckets.map (enBkt.av τ))], .agg [.int .i64 r.id, .int .i64 r.root, .int .i64 r.kind, .bool r.indep]] = ⟨τ ≠ 0, .bool (ruleOk t r)⟩ := semT2_eq (τ' := 0) (E := enTree) (F := enRule) (seen_Tree)
theorem p83 : Pure Try.prog 83 g83 := by
  refine semT2_pure fun τ τ' t r n h2 hpre => ?_
  have hT : Table Try.prog [(40, g40), (121, g121)] := (.cons p40 (.cons p121 .nil))
  have hn0 : n ≠ 0 := by omega
  refine SatP.of_body hT hm Try.func83 s83 o83 h2 (by simp) ?_
  have hp : τ ≠ 0 := hpre
  simp (config := {contextual := true, maxSteps := 2000000, implicitDefEqProofs := false}) [c83, go_sem, hp, ruleOk]
/- spec.l08OK -/
def c116 : SCode := (.seq (.reg [⟨(some 2), .box 36 (.tmp 0), none⟩,
   ⟨(some 3), .box 87 (.tmp 1), none⟩,
   ⟨(some 4), .assign (.const (.bool false)), none⟩])
(.seq (.reg [⟨(some 5), .fieldAddr 87 (.tmp 3) 0, none⟩,
    ⟨(some 6), .load 2 (.tmp 5), none⟩,
    ⟨(some 7), .call ⟨(.value (.func 73)), #[(.tmp 6), (.const (.int .i64 1)), (.const (.int .i64 4))], #[2, 2, 2]⟩, none⟩,
    ⟨(some 8), .move (.tmp 7), none⟩,
    ⟨(some 9), .fieldAddr 87 (.tmp 3) 1, (some (8, true))⟩,
    ⟨(some 10), .load 2 (.tmp 9), (some (8, true))⟩,
    ⟨(some 11), .binOp .lss 2 (.tmp 10) (.const (.int .i64 0)) 2, (some (8, true))⟩,
    ⟨(some 12), .pick (.tmp 8) (.tmp 11) (.const (.bool false)), none⟩,
    ⟨(some 13), .move (.tmp 12), none⟩,
    ⟨(some 14), .load 36 (.tmp 2), (some (13, true))⟩,
    ⟨(some 15), .fieldAddr 87 (.tmp 3) 1, (some (13, true))⟩,
    ⟨(some 16), .load 2 (.tmp 15), (some (13, true))⟩,
    ⟨(some 17), .call ⟨(.value (.func 130)), #[(.tmp 14), (.tmp 16)], #[36, 2]⟩, (some (13, true))⟩,
    ⟨(some 18), .binOp .eql 2 (.tmp 17) (.const (.int .i64 3)) 2, (some (13, true))⟩,
    ⟨(some 19), .pick (.tmp 13) (.tmp 18) (.const (.bool false)), none⟩,
    ⟨(some 20), .move (.tmp 19), none⟩,
    ⟨(some 21), .fieldAddr 87 (.tmp 3) 2, (some (20, true))⟩,
    ⟨(some 22), .load 2 (.tmp 21), (some (20, true))⟩,
    ⟨(some 23), .call ⟨(.value (.func 73)), #[(.tmp 22), (.const (.int .i64 0)), (.const (.int .i64 2))], #[2, 2, 2]⟩, (some (20, true))⟩,
    ⟨(some 24), .pick (.tmp 20) (.tmp 23) (.const (.bool false)), none⟩,
    ⟨(some 4), .assign (.tmp 24), none⟩])
 .ret))
theorem s116 : slimF Try.f116 = some (c116, [.t 4], 25) := by kernel_rfl
theorem o116 : okF [(73, g73), (130, g130)] Try.f116 = true := by kernel_rfl
noncomputable def g116 : Fsem := sem2 enTree enRule (fun t r => True) (fun n t r => .bool (l08Ok t r))
@[go_sem] theorem g116_eq {n τ : Nat} {t : Tree} {r : Rule} : g116 n [.agg [.sl τ 2 (t.devices.map (enDev.av τ)), .sl τ 3 (t.buckets.map (enBkt.av τ))], .agg [.int .i64 r.id, .int .i64 r.root, .int .i64 r.kind, .bool r.indep]] = ⟨True, .bool (l08Ok t r)⟩ := sem2_eq (τ' := 0) (E := enTree) (F := enRule)
theorem p116 : Pure Try.prog 116 g116 := by
  refine sem2_pure fun τ τ' t r n h2 hpre => ?_
  have hT : Table Try.prog [(73, g73), (130, g130)] := (.cons p73 (.cons p130 .nil))
  have hn0 : n ≠ 0 := by omega
  refine SatP.of_body hT hm Try.func116 s116 o116 h2 (by simp) ?_
  simp (config := {contextual := true, maxSteps := 2000000, implicitDefEqProofs := false}) [c116, go_sem, l08Ok]
/- spec.RuleOk -/
def c75 : SCode := (.seq (.reg [⟨(some 2), .box 36 (.tmp 0), none⟩,
   ⟨(some 3), .box 87 (.tmp 1), none⟩,
   ⟨(some 4), .assign (.const (.bool false)), none⟩])
(.seq (.reg [⟨(some 5), .load 36 (.tmp 2), none⟩,
    ⟨(some 6), .call ⟨(.value (.func 58)), #[(.tmp 5)], #[36]⟩, none⟩,
    ⟨(some 7), .move (.tmp 6), none⟩,
    ⟨(some 8), .load 36 (.tmp 2), (some (7, true))⟩,
    ⟨(some 9), .load 87 (.tmp 3), (some (7, true))⟩,
    ⟨(some 10), .call ⟨(.value (.func 116)), #[(.tmp 8), (.tmp 9)], #[36, 87]⟩, (some (7, true))⟩,
    ⟨(some 11), .pick (.tmp 7) (.tmp 10) (.const (.bool false)), none⟩,
    ⟨(some 4), .assign (.tmp 11), none⟩])
 .ret))
theorem s75 : slimF Try.f75 = some (c75, [.t 4], 12) := by kernel_rfl
theorem o75 : okF [(58, g58), (116, g116)] Try.f75 = true := by kernel_rfl
noncomputable def g75 : Fsem := sem2 enTree enRule (fun t r => True) (fun n t r => .bool (treeOk t && ruleOk t r))
@[go_sem] theorem g75_eq {n τ : Nat} {t : Tree} {r : Rule} : g75 n [.agg [.sl τ 2 (t.devices.map (enDev.av τ)), .sl τ 3 (t.buckets.map (enBkt.av τ))], .agg [.int .i64 r.id, .int .i64 r.root, .int .i64 r.kind, .bool r.indep]] = ⟨True, .bool (treeOk t && ruleOk t r)⟩ := sem2_eq (τ' := 0) (E := enTree) (F := enRule)
theorem p75 : Pure Try.prog 75 g75 := by
  refine sem2_pure fun τ τ' t r n h2 hpre => ?_
  have hT : Table Try.prog [(58, g58), (116, g116)] := (.cons p58 (.cons p116 .nil))
  have hn0 : n ≠ 0 := by omega
  refine SatP.of_body hT hm Try.func75 s75 o75 h2 (by simp) ?_
  rw [← l08_eq]
  simp (config := {contextual := true, maxSteps := 2000000, implicitDefEqProofs := false}) [c75, go_sem]
/- impl.increasing -/
def c86 : SCode := (.seq (.reg [⟨(some 2), .assign (.const (.bool false)), none⟩])
(.seq (.seq (.reg [⟨(some 3), .assign (.const (.int .i64 1)), none⟩])
  (.block 0 (.loop (.seq (.seq (.reg [⟨(some 4), .move (.tmp 3), none⟩,
         ⟨(some 5), .move (.tmp 0), none⟩,
         ⟨(some 6), .call ⟨(.builtin .len), #[(.tmp 5)], #[28]⟩, none⟩,
         ⟨(some 7), .binOp .lss 3 (.tmp 4) (.tmp 6) 3, none⟩])
      (.cond (.tmp 7) .skip
       (.exit 0)))
     (.seq (.block 1 (.seq (.draw [⟨(some 10), .move (.tmp 0), none⟩,
           ⟨(some 11), .move (.tmp 3), none⟩,
           ⟨(some 12), .indexAddr 28 (.tmp 10) (.tmp 11), none⟩,
           ⟨(some 13), .load 2 (.tmp 12), none⟩,
           ⟨(some 14), .move (.tmp 0), none⟩,
           ⟨(some 15), .move (.tmp 3), none⟩,
           ⟨(some 16), .binOp .sub 3 (.tmp 15) (.const (.int .i64 1)) 3, none⟩,
           ⟨(some 17), .indexAddr 28 (.tmp 14) (.tmp 16), none⟩,
           ⟨(some 18), .load 2 (.tmp 17), none⟩,
           ⟨(some 19), .binOp .leq 2 (.tmp 13) (.tmp 18) 2, none⟩] [[], [], [0, 1], [0, 1, 2], [], [], [5], [4, 5, 6], [4, 5, 6, 7], [0, 1, 2, 3, 4, 5, 6, 7, 8]])
        (.cond (.tmp 19) (.seq (.reg [⟨(some 2), .assign (.const (.bool false)), none⟩])
          .ret)
         .skip)))
      (.reg [⟨(some 8), .move (.tmp 3), none⟩,
         ⟨(some 9), .binOp .add 3 (.tmp 8) (.const (.int .i64 1)) 3, none⟩,
         ⟨(some 3), .assign (.tmp 9), none⟩]))))))
 (.seq (.reg [⟨(some 2), .assign (.const (.bool true)), none⟩])
  .ret)))
theorem s86 : slimF Try.f86 = some (c86, [.t 2], 20) := by kernel_rfl
theorem o86 : okF [] Try.f86 = true := by kernel_rfl
noncomputable def g86 : Fsem := sem1 (En.int .i64).list (fun l => True) (fun n l => .bool (incr l))
@[go_sem] theorem g86_eq {n τ : Nat} {l : List Int} : g86 n [.sl τ 1 (l.map (AV.int .i64))] = ⟨True, .bool (incr l)⟩ := sem1_eq  (E := (En.int .i64).list)
theorem p86 : Pure Try.prog 86 g86 := by
  refine sem1_pure fun τ l n h2 hpre => ?_
  have hT : Table Try.prog [] := .nil
  have hn0 : n ≠ 0 := by omega
  refine SatP.of_body hT hm Try.func86 s86 o86 h2 (by simp) ?_
  cases l with
  | nil =>
    simp (config := {contextual := true, maxSteps := 2000000, implicitDefEqProofs := false}) [c86, go_sem]
    refine VW_listK hT h2 hm ([] : List Int) [0] (fun pre post (b : Unit) => [(3, .int .i64 1)]) (fun pre post (b : Unit) => True) () ?_ ?_ ?_ ?_
    · trivial
    · simp [SubI, go_sem]
    · intro _ _
      simp (config := {contextual := true, maxSteps := 2000000, implicitDefEqProofs := false}) [go_sem]
      simp [incr, chk]
    · intro pre x post _ hl
      simp at hl
  | cons y l =>
    generalize hr : incr (y :: l) = r
    simp (config := {contextual := true, maxSteps := 2000000, implicitDefEqProofs := false}) [c86, go_sem]
    refine VW_listK hT h2 hm l [0] (fun pre post (b : Unit) => [(3, .int .i64 ((pre.length : Int) + 1))]) (fun pre post (b : Unit) => chk incP (y :: pre).getLast? post = r) () ?_ ?_ ?_ ?_
    · rw [← hr]; simp [incr, chk, incP]
    · simp [SubI, go_sem]
    · intro _ hR
      simp (config := {contextual := true, maxSteps := 2000000, implicitDefEqProofs := false}) [go_sem]
      simp [chk] at hR
      grind
    · intro pre x post _ hl hlen hR
      obtain ⟨q, z, hq⟩ := exists_concat y pre
      have hpl : pre.length = q.length := by
        have := congrArg List.length hq
        simpa using this
      have hll : y :: l = q ++ z :: x :: post := by
        rw [← hl, ← List.cons_append, hq]
        simp
      have hn1 : nth (List.map (AV.int .i64) (y :: l)) q.length = .int .i64 z := by rw [hll]; simp [go_sem]
      have hn2 : nth (List.map (AV.int .i64) (y :: l)) (q.length + 1) = .int .i64 x := by rw [hll]; simp [go_sem]
      simp only [List.map_cons] at hn1 hn2
      have hlen2 : l.length = q.length + (post.length + 1) := by omega
      have hw : l.length + 1 ≤ maxLen → IntKind.i64.wrap ((q.length : Int) + 1 + 1) = (q.length : Int) + 1 + 1 := fun h => wrap_ok (by omega) (by simp only [maxLen] at h; omega)
      have hw1 : l.length + 1 ≤ maxLen → IntKind.i64.wrap (q.length : Int) = (q.length : Int) := fun h => wrap_ok (by omega) (by simp only [maxLen] at h; omega)
      have h3 : (0 : Int) ≤ q.length := by omega
      have h4 : (0 : Int) ≤ (q.length : Int) + 1 := by omega
      have h5 : (q.length : Int) < l.length := by omega
      have h6 : (q.length : Int) + 1 < (l.length : Int) + 1 := by omega
      have h7 : (q.length : Int) < (l.length : Int) + 1 := by omega
      rw [hq, last_concat] at hR
      simp only [chk, incP] at hR
      simp (config := {contextual := true, maxSteps := 2000000, implicitDefEqProofs := false}) [go_sem, hpl, hn1, hn2, hw, hw1, h3, h4, h5, h6, h7, SubI] <;> grind
/- (impl.Tree).areDevices$1 -/
def c88 : SCode := (.seq (.reg [⟨(some 3), .assign (.const (.bool false)), none⟩])
(.seq (.reg [⟨(some 4), .load 36 (.tmp 1), none⟩,
    ⟨(some 5), .move (.tmp 0), none⟩,
    ⟨(some 6), .call ⟨(.value (.func 89)), #[(.tmp 4), (.tmp 5)], #[36, 2]⟩, none⟩,
    ⟨(some 7), .binOp .lss 3 (.tmp 6) (.const (.int .i64 0)) 3, none⟩,
    ⟨(some 3), .assign (.tmp 7), none⟩])
 .ret))
theorem s88 : slimF Try.f88 = some (c88, [.t 3], 8) := by kernel_rfl
theorem o88 : okF [(89, g89)] Try.f88 = true := by kernel_rfl
noncomputable def g88 : Fsem := semOf (fun i : Nat × Nat × Int × Tree => [.int .i64 i.2.2.1, .dptr i.1 (enTree.cs i.2.1 i.2.2.2)]) (fun _ => True) (fun _ i => .bool (decide (devI i.2.2.2 i.2.2.1 < 0)))
theorem tree_cs_inj {τ τ' : Nat} {t t' : Tree} (h : enTree.cs τ t = enTree.cs τ' t') : t = t' := by
  rw [← enTree.hdec τ t, ← enTree.hdec τ' t', h]
@[go_sem] theorem g88_eq {n τ τ' : Nat} {id : Int} {t : Tree} : g88 n [.int .i64 id, .dptr τ' [.sl τ 2 (t.devices.map (enDev.av τ)), .sl τ 3 (t.buckets.map (enBkt.av τ))]] = ⟨True, .bool (decide (devI t id < 0))⟩ :=
  semOf_eq (τ', τ, id, t) rfl fun ⟨_, _, id', t'⟩ h => by
    obtain ⟨h1, h⟩ := cons_inj h
    obtain ⟨h2, _⟩ := cons_inj h
    simp only [AV.int.injEq, true_and] at h1
    simp only [AV.dptr.injEq] at h2
    have := tree_cs_inj h2.2
    subst this h1
    exact ⟨Iff.rfl, rfl⟩
theorem p88 : Pure Try.prog 88 g88 := by
  refine semOf_pure fun ⟨τ', τ, id, t⟩ n h2 _ => ?_
  have hT : Table Try.prog [(89, g89)] := (.cons p89 .nil)
  refine SatP.of_body hT hm Try.func88 s88 o88 h2 (by simp) ?_
  simp (config := {contextual := true, implicitDefEqProofs := false}) [c88, go_sem]
theorem s126 : slimF Try.f126 = some (idxC 28 2, [.t 4], 19) := by kernel_rfl
theorem o126_88 : okF [(88, g88)] Try.f126 = true := by kernel_rfl
noncomputable def g126_88 : Fsem := idxSem (ι := Nat × Nat × Tree) (En.int .i64) 88 (fun i => [.dptr i.1 (enTree.cs i.2.1 i.2.2)]) (fun i x => decide (devI i.2.2 x < 0))
theorem g126_88_eq {n τ τ' τ'' : Nat} {l : List Int} {t : Tree} : g126_88 n [.sl τ 1 (l.map (AV.int .i64)), .fn 88 [.dptr τ' (enTree.cs τ'' t)]] = ⟨True, .int .i64 (idx (fun x => decide (devI t x < 0)) l)⟩ :=
  idxSem_eq (E := En.int .i64) (caps := fun i : Nat × Nat × Tree => [.dptr i.1 (enTree.cs i.2.1 i.2.2)]) (p := fun i x => decide (devI i.2.2 x < 0)) (τ', τ'', t) (fun j h => by
    obtain ⟨h1, _⟩ := cons_inj h
    simp only [AV.dptr.injEq] at h1
    have := tree_cs_inj h1.2
    simp only [this])
theorem p126_88 : Pure Try.prog 126 g126_88 := idxSem_pure hm Try.func126 s126 o126_88 (by omega) ty_28 (fite_2) p88 (fun i c hc => by simp at hc; subst hc; rfl) (fun i n τ x => by simp [go_sem])
theorem s87 : slimF Try.f87 = some (cfC 28 121 126, [.t 4], 9) := by kernel_rfl
theorem o87_88 : okF [(126, g126_88)] Try.f87 = true := by kernel_rfl
noncomputable def g87_88 : Fsem := cfSem (ι := Nat × Nat × Tree) (En.int .i64) 88 (fun i => [.dptr i.1 (enTree.cs i.2.1 i.2.2)]) (fun i x => decide (devI i.2.2 x < 0))
@[go_sem] theorem g87_88_eq {n τ τ' τ'' : Nat} {l : List Int} {t : Tree} : g87_88 n [.sl τ 1 (l.map (AV.int .i64)), .fn 88 [.dptr τ' [.sl τ'' 2 (t.devices.map (enDev.av τ'')), .sl τ'' 3 (t.buckets.map (enBkt.av τ''))]]] = ⟨True, .bool (l.any (fun x => decide (devI t x < 0)))⟩ :=
  cfSem_eq (E := En.int .i64) (caps := fun i : Nat × Nat × Tree => [.dptr i.1 (enTree.cs i.2.1 i.2.2)]) (p := fun i x => decide (devI i.2.2 x < 0)) (τ', τ'', t) (fun j h => by
    obtain ⟨h1, _⟩ := cons_inj h
    simp only [AV.dptr.injEq] at h1
    have := tree_cs_inj h1.2
    simp only [this])
theorem p87_88 : Pure Try.prog 87 g87_88 := cfSem_pure hm Try.func87 s87 o87_88 (by omega) p126_88 (fun i c hc => by simp at hc; subst hc; rfl) (fun i n τ l => g126_88_eq)
/- (impl.Tree).areDevices -/
def c44 : SCode := (.seq (.reg [⟨(some 2), .box 36 (.tmp 0), none⟩,
   ⟨(some 4), .assign (.const (.bool false)), none⟩])
(.seq (.reg [⟨(some 5), .move (.tmp 1), none⟩,
    ⟨(some 6), .call ⟨(.value (.func 86)), #[(.tmp 5)], #[28]⟩, none⟩,
    ⟨(some 7), .move (.tmp 6), none⟩,
    ⟨(some 8), .move (.tmp 1), (some (7, true))⟩,
    ⟨(some 9), .makeFunc (Fn.func 88) #[] #[(.tmp 2)], (some (7, true))⟩,
    ⟨(some 10), .call ⟨(.value (.func 87)), #[(.tmp 8), (.tmp 9)], #[28, 121]⟩, (some (7, true))⟩,
    ⟨(some 11), .unOp .not 4 (.tmp 10), (some (7, true))⟩,
    ⟨(some 12), .pick (.tmp 7) (.tmp 11) (.const (.bool false)), none⟩,
    ⟨(some 4), .assign (.tmp 12), none⟩])
 .ret))
theorem s44 : slimF Try.f44 = some (c44, [.t 4], 13) := by kernel_rfl
theorem o44 : okF [(86, g86), (87, (dsp [(88, g87_88)]))] Try.f44 = true := by kernel_rfl
noncomputable def g44 : Fsem := sem2 enTree (En.int .i64).list (fun t l => True) (fun n t l => .bool (nodesOk t l))
@[go_sem] theorem g44_eq {n τ τ' : Nat} {t : Tree} {l : List Int} : g44 n [.agg [.sl τ 2 (t.devices.map (enDev.av τ)), .sl τ 3 (t.buckets.map (enBkt.av τ))], .sl τ' 1 (l.map (AV.int .i64))] = ⟨True, .bool (nodesOk t l)⟩ := sem2_eq  (E := enTree) (F := (En.int .i64).list)
theorem p44 : Pure Try.prog 44 g44 := by
  refine sem2_pure fun τ τ' t l n h2 hpre => ?_
  have hT : Table Try.prog [(86, g86), (87, (dsp [(88, g87_88)]))] := (.cons p86 (.cons (dsp_pure (by simp only [List.mem_cons, List.not_mem_nil, or_false, forall_eq]; exact p87_88)) .nil))
  have hn0 : n ≠ 0 := by omega
  refine SatP.of_body hT hm Try.func44 s44 o44 h2 (by simp) ?_
  simp (config := {contextual := true, maxSteps := 2000000, implicitDefEqProofs := false}) [c44, go_sem, nodesOk]
/- (impl.Map).rule$1 -/
def c125 : SCode := (.seq (.reg [⟨(some 2), .box 87 (.tmp 0), none⟩,
   ⟨(some 3), .assign (.const (.bool false)), none⟩])
(.seq (.reg [⟨(some 4), .fieldAddr 87 (.tmp 2) 0, none⟩,
    ⟨(some 5), .load 2 (.tmp 4), none⟩,
    ⟨(some 6), .load 2 (.tmp 1), none⟩,
    ⟨(some 7), .binOp .eql 2 (.tmp 5) (.tmp 6) 2, none⟩,
    ⟨(some 3), .assign (.tmp 7), none⟩])
 .ret))
theorem s125 : slimF Try.f125 = some (c125, [.t 3], 8) := by kernel_rfl
theorem o125 : okF [] Try.f125 = true := by kernel_rfl
noncomputable def g125 : Fsem := semOf (fun i : Nat × Nat × Rule × Int => [enRule.av i.1 i.2.2.1, .dptr i.2.1 [.int .i64 i.2.2.2]]) (fun _ => True) (fun _ i => .bool (decide (i.2.2.1.id = i.2.2.2)))
@[go_sem] theorem g125_eq {n τ' : Nat} {x : Rule} {i : Int} : g125 n [.agg [.int .i64 x.id, .int .i64 x.root, .int .i64 x.kind, .bool x.indep], .dptr τ' [.int .i64 i]] = ⟨True, .bool (decide (x.id = i))⟩ :=
  semOf_eq (0, τ', x, i) rfl fun ⟨_, _, y, j⟩ h => by
    obtain ⟨h1, h⟩ := cons_inj h
    obtain ⟨h2, _⟩ := cons_inj h
    have h3 : y = x := enRule.inj h1
    simp at h2
    simp [h3, h2.2]
theorem p125 : Pure Try.prog 125 g125 := by
  refine semOf_pure fun ⟨τ, τ', x, i⟩ n h2 _ => ?_
  refine SatP.of_body Table.nil hm Try.func125 s125 o125 h2 (by simp) ?_
  simp (config := {contextual := true}) [c125, go_sem]
/- slices.IndexFunc[[]impl.Rule,impl.Rule] -/
theorem s124 : slimF Try.f124 = some (idxC 37 87, [.t 4], 19) := by kernel_rfl
theorem o124_125 : okF [(125, g125)] Try.f124 = true := by kernel_rfl
noncomputable def g124_125 : Fsem := idxSem (ι := Nat × Int) enRule 125 (fun i => [.dptr i.1 [.int .i64 i.2]]) (fun i x => decide (x.id = i.2))
@[go_sem] theorem g124_125_eq {n τ τ' : Nat} {l : List Rule} {i : Int} : g124_125 n [.sl τ 4 (l.map (enRule.av τ)), .fn 125 [.dptr τ' [.int .i64 i]]] = ⟨True, .int .i64 (idx (fun x => decide (x.id = i)) l)⟩ :=
  idxSem_eq (E := enRule) (caps := fun i : Nat × Int => [.dptr i.1 [.int .i64 i.2]]) (p := fun i x => decide (x.id = i.2)) (τ', i) (fun j h => by first | (simp at h; simp [h]; done) | (simp only [List.cons.injEq, AV.dptr.injEq, and_true] at h; skip))
theorem p124_125 : Pure Try.prog 124 g124_125 := idxSem_pure hm Try.func124 s124 o124_125 (by omega) ty_37 fit_87 p125 (fun i c hc => by simp at hc; subst hc; rfl) (fun i n τ x => by simp [go_sem])
noncomputable def g124 : Fsem := dsp [(125, g124_125)]
theorem p124 : Pure Try.prog 124 g124 := dsp_pure (by simp only [List.mem_cons, List.not_mem_nil, or_false, forall_eq_or_imp, forall_eq]; exact p124_125)
@[go_sem] theorem g124_dsp : g124 = dsp [(125, g124_125)] := rfl
/- (impl.Map).rule -/
def c85 : SCode := (.seq (.reg [⟨(some 2), .box 40 (.tmp 0), none⟩,
   ⟨(some 3), .box 2 (.tmp 1), none⟩,
   ⟨(some 4), .assign (.const (.pointer none)), none⟩])
(.seq (.reg [⟨(some 6), .fieldAddr 40 (.tmp 2) 3, none⟩,
    ⟨(some 7), .load 37 (.tmp 6), none⟩,
    ⟨(some 8), .makeFunc (Fn.func 125) #[] #[(.tmp 3)], none⟩,
    ⟨(some 9), .call ⟨(.value (.func 124)), #[(.tmp 7), (.tmp 8)], #[37, 148]⟩, none⟩,
    ⟨(some 5), .assign (.tmp 9), none⟩])
 (.seq (.seq (.reg [⟨(some 10), .move (.tmp 5), none⟩,
      ⟨(some 11), .binOp .lss 3 (.tmp 10) (.const (.int .i64 0)) 3, none⟩])
   (.cond (.tmp 11) (.seq (.reg [⟨(some 4), .assign (.const (.pointer none)), none⟩])
     .ret)
    .skip))
  (.seq (.reg [⟨(some 12), .fieldAddr 40 (.tmp 2) 3, none⟩,
      ⟨(some 13), .load 37 (.tmp 12), none⟩,
      ⟨(some 14), .move (.tmp 5), none⟩,
      ⟨(some 15), .indexAddr 37 (.tmp 13) (.tmp 14), none⟩,
      ⟨(some 4), .assign (.tmp 15), none⟩])
   .ret))))
theorem s85 : slimF Try.f85 = some (c85, [.t 4], 16) := by kernel_rfl
theorem o85 : okF [(124, g124)] Try.f85 = true := by kernel_rfl
noncomputable def g85 : Fsem := semT2 enMp (En.int .i64) (fun τ m id => τ ≠ 0) (fun n τ m id => match ruleO m id with | some b => .dptr τ [.int .i64 b.id, .int .i64 b.root, .int .i64 b.kind, .bool b.indep] | none => .nilp)
@[go_sem] theorem g85_eq {n τ : Nat} {m : Mp} {id : Int} : g85 n [.agg [.int .i64 m.epoch, .int .i64 m.term, .sl τ 2 (m.tree.devices.map (enDev.av τ)), .sl τ 3 (m.tree.buckets.map (enBkt.av τ)), .sl τ 4 (m.rules.map (enRule.av τ)), .sl τ 6 (m.pools.map (enPool.av τ)), .sl τ 1 (m.up.map (AV.int .i64)), .sl τ 1 (m.out.map (AV.int .i64))], .int .i64 id] = ⟨τ ≠ 0, match ruleO m id with | some b => .dptr τ [.int .i64 b.id, .int .i64 b.root, .int .i64 b.kind, .bool b.indep] | none => .nilp⟩ := semT2_eq (τ' := 0) (E := enMp) (F := (En.int .i64)) (seen_Mp)
theorem p85 : Pure Try.prog 85 g85 := by
  refine semT2_pure fun τ τ' m id n h2 hpre => ?_
  have hT : Table Try.prog [(124, g124)] := (.cons p124 .nil)
  have hn0 : n ≠ 0 := by omega
  refine SatP.of_body hT hm Try.func85 s85 o85 h2 (by simp) ?_
  have hp : τ ≠ 0 := hpre
  rcases idx_spec (fun b : Rule => decide (b.id = id)) m.rules with ⟨h1, hb⟩ | ⟨a, x, b, hl, h2, h3, hb⟩
  · simp (config := {contextual := true, maxSteps := 2000000, implicitDefEqProofs := false}) [c85, go_sem, h1, ruleO, hb]
  · have h4 : (0 : Int) ≤ a.length := by omega
    have h5 : ¬ (a.length : Int) < 0 := by omega
    have h6 : (a.length : Int) < (a.length : Int) + ((b.length : Int) + 1) := by omega
    simp only [ruleO, hb]
    simp (config := {contextual := true, maxSteps := 2000000, implicitDefEqProofs := false}) [c85, go_sem, h3]
    simp (config := {contextual := true, maxSteps := 2000000, implicitDefEqProofs := false}) [go_sem, hl, h4, h5, h6, hp]
/- (impl.Map).pool$1 -/
def c92 : SCode := (.seq (.reg [⟨(some 2), .box 47 (.tmp 0), none⟩,
   ⟨(some 3), .assign (.const (.bool false)), none⟩])
(.seq (.reg [⟨(some 4), .fieldAddr 47 (.tmp 2) 0, none⟩,
    ⟨(some 5), .load 2 (.tmp 4), none⟩,
    ⟨(some 6), .load 2 (.tmp 1), none⟩,
    ⟨(some 7), .binOp .eql 2 (.tmp 5) (.tmp 6) 2, none⟩,
    ⟨(some 3), .assign (.tmp 7), none⟩])
 .ret))
theorem s92 : slimF Try.f92 = some (c92, [.t 3], 8) := by kernel_rfl
theorem o92 : okF [] Try.f92 = true := by kernel_rfl
noncomputable def g92 : Fsem := semOf (fun i : Nat × Nat × Pool × Int => [enPool.av i.1 i.2.2.1, .dptr i.2.1 [.int .i64 i.2.2.2]]) (fun _ => True) (fun _ i => .bool (decide (i.2.2.1.id = i.2.2.2)))
@[go_sem] theorem g92_eq {n τ' : Nat} {x : Pool} {i : Int} : g92 n [.agg [.int .i64 x.id, .int .i64 x.code.k, .int .i64 x.code.m, .int .i64 x.min, .int .i64 x.pgs, .int .i64 x.rule], .dptr τ' [.int .i64 i]] = ⟨True, .bool (decide (x.id = i))⟩ :=
  semOf_eq (0, τ', x, i) rfl fun ⟨_, _, y, j⟩ h => by
    obtain ⟨h1, h⟩ := cons_inj h
    obtain ⟨h2, _⟩ := cons_inj h
    have h3 : y = x := enPool.inj h1
    simp at h2
    simp [h3, h2.2]
theorem p92 : Pure Try.prog 92 g92 := by
  refine semOf_pure fun ⟨τ, τ', x, i⟩ n h2 _ => ?_
  refine SatP.of_body Table.nil hm Try.func92 s92 o92 h2 (by simp) ?_
  simp (config := {contextual := true}) [c92, go_sem]
/- slices.IndexFunc[[]impl.Pool,impl.Pool] -/
theorem s91 : slimF Try.f91 = some (idxC 38 47, [.t 4], 19) := by kernel_rfl
theorem o91_92 : okF [(92, g92)] Try.f91 = true := by kernel_rfl
noncomputable def g91_92 : Fsem := idxSem (ι := Nat × Int) enPool 92 (fun i => [.dptr i.1 [.int .i64 i.2]]) (fun i x => decide (x.id = i.2))
@[go_sem] theorem g91_92_eq {n τ τ' : Nat} {l : List Pool} {i : Int} : g91_92 n [.sl τ 6 (l.map (enPool.av τ)), .fn 92 [.dptr τ' [.int .i64 i]]] = ⟨True, .int .i64 (idx (fun x => decide (x.id = i)) l)⟩ :=
  idxSem_eq (E := enPool) (caps := fun i : Nat × Int => [.dptr i.1 [.int .i64 i.2]]) (p := fun i x => decide (x.id = i.2)) (τ', i) (fun j h => by first | (simp at h; simp [h]; done) | (simp only [List.cons.injEq, AV.dptr.injEq, and_true] at h; skip))
theorem p91_92 : Pure Try.prog 91 g91_92 := idxSem_pure hm Try.func91 s91 o91_92 (by omega) ty_38 fit_47 p92 (fun i c hc => by simp at hc; subst hc; rfl) (fun i n τ x => by simp [go_sem])
noncomputable def g91 : Fsem := dsp [(92, g91_92)]
theorem p91 : Pure Try.prog 91 g91 := dsp_pure (by simp only [List.mem_cons, List.not_mem_nil, or_false, forall_eq_or_imp, forall_eq]; exact p91_92)
@[go_sem] theorem g91_dsp : g91 = dsp [(92, g91_92)] := rfl
/- (impl.Map).pool -/
def c49 : SCode := (.seq (.reg [⟨(some 2), .box 40 (.tmp 0), none⟩,
   ⟨(some 3), .box 2 (.tmp 1), none⟩,
   ⟨(some 4), .assign (.const (.pointer none)), none⟩])
(.seq (.reg [⟨(some 6), .fieldAddr 40 (.tmp 2) 4, none⟩,
    ⟨(some 7), .load 38 (.tmp 6), none⟩,
    ⟨(some 8), .makeFunc (Fn.func 92) #[] #[(.tmp 3)], none⟩,
    ⟨(some 9), .call ⟨(.value (.func 91)), #[(.tmp 7), (.tmp 8)], #[38, 105]⟩, none⟩,
    ⟨(some 5), .assign (.tmp 9), none⟩])
 (.seq (.seq (.reg [⟨(some 10), .move (.tmp 5), none⟩,
      ⟨(some 11), .binOp .lss 3 (.tmp 10) (.const (.int .i64 0)) 3, none⟩])
   (.cond (.tmp 11) (.seq (.reg [⟨(some 4), .assign (.const (.pointer none)), none⟩])
     .ret)
    .skip))
  (.seq (.reg [⟨(some 12), .fieldAddr 40 (.tmp 2) 4, none⟩,
      ⟨(some 13), .load 38 (.tmp 12), none⟩,
      ⟨(some 14), .move (.tmp 5), none⟩,
      ⟨(some 15), .indexAddr 38 (.tmp 13) (.tmp 14), none⟩,
      ⟨(some 4), .assign (.tmp 15), none⟩])
   .ret))))
theorem s49 : slimF Try.f49 = some (c49, [.t 4], 16) := by kernel_rfl
theorem o49 : okF [(91, g91)] Try.f49 = true := by kernel_rfl
noncomputable def g49 : Fsem := semT2 enMp (En.int .i64) (fun τ m id => τ ≠ 0) (fun n τ m id => match poolO m id with | some b => .dptr τ [.int .i64 b.id, .int .i64 b.code.k, .int .i64 b.code.m, .int .i64 b.min, .int .i64 b.pgs, .int .i64 b.rule] | none => .nilp)
@[go_sem] theorem g49_eq {n τ : Nat} {m : Mp} {id : Int} : g49 n [.agg [.int .i64 m.epoch, .int .i64 m.term, .sl τ 2 (m.tree.devices.map (enDev.av τ)), .sl τ 3 (m.tree.buckets.map (enBkt.av τ)), .sl τ 4 (m.rules.map (enRule.av τ)), .sl τ 6 (m.pools.map (enPool.av τ)), .sl τ 1 (m.up.map (AV.int .i64)), .sl τ 1 (m.out.map (AV.int .i64))], .int .i64 id] = ⟨τ ≠ 0, match poolO m id with | some b => .dptr τ [.int .i64 b.id, .int .i64 b.code.k, .int .i64 b.code.m, .int .i64 b.min, .int .i64 b.pgs, .int .i64 b.rule] | none => .nilp⟩ := semT2_eq (τ' := 0) (E := enMp) (F := (En.int .i64)) (seen_Mp)
theorem p49 : Pure Try.prog 49 g49 := by
  refine semT2_pure fun τ τ' m id n h2 hpre => ?_
  have hT : Table Try.prog [(91, g91)] := (.cons p91 .nil)
  have hn0 : n ≠ 0 := by omega
  refine SatP.of_body hT hm Try.func49 s49 o49 h2 (by simp) ?_
  have hp : τ ≠ 0 := hpre
  rcases idx_spec (fun b : Pool => decide (b.id = id)) m.pools with ⟨h1, hb⟩ | ⟨a, x, b, hl, h2, h3, hb⟩
  · simp (config := {contextual := true, maxSteps := 2000000, implicitDefEqProofs := false}) [c49, go_sem, h1, poolO, hb]
  · have h4 : (0 : Int) ≤ a.length := by omega
    have h5 : ¬ (a.length : Int) < 0 := by omega
    have h6 : (a.length : Int) < (a.length : Int) + ((b.length : Int) + 1) := by omega
    simp only [poolO, hb]
    simp (config := {contextual := true, maxSteps := 2000000, implicitDefEqProofs := false}) [c49, go_sem, h3]
    simp (config := {contextual := true, maxSteps := 2000000, implicitDefEqProofs := false}) [go_sem, hl, h4, h5, h6, hp]
end Go.Ve
