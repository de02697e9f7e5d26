/- The texts of this claim, part PF 1: the engine that runs the code on values, the data, the contracts. No condition. -/
import Derived.Test.YtidfijaobkaalaaGreatPD10
namespace Go.Ve
open Go.Proofs Go.RowKit
set_option linter.unusedVariables false
set_option linter.unusedSimpArgs false
set_option maxRecDepth 10000
set_option maxHeartbeats 4000000
def excOk1 (e : Exc) : Bool := btw e.pg.pool 1 4 && btw e.pg.no 0 15 && btw e.from_ 0 15 && btw e.to_ 0 15 && !decide (e.from_ = e.to_)
def pgLt (a b : Pg) : Bool := decide (a.pool < b.pool) || (decide (a.pool = b.pool) && decide (a.no < b.no))
def knownE (l : List Exc) (g : Pg) (f : Int) : Bool := l.any fun o => decide (o.pg.pool = g.pool) && decide (o.pg.no = g.no) && decide (o.from_ = f)
def prevE (l : List Exc) (g : Pg) : Bool := match l.getLast? with
  | none => true
  | some y => !pgLt g y.pg
def excL : List Exc → List Exc → Bool
  | _, [] => true
  | pre, e :: l => excOk1 e && prevE pre e.pg && !knownE pre e.pg e.from_ && excL (pre ++ [e]) l
def excsOk (l : List Exc) : Bool := excL [] l && decide (l.length ≤ 16)
def cmpI (a b : Int) : Int := if a < b then -1 else if b < a then 1 else 0
def orI : List Int → Int
  | [] => 0
  | x :: l => if x = 0 then orI l else x
def cmpPg (a b : Pg) : Int := orI [cmpI a.pool b.pool, cmpI a.no b.no]
theorem cmpPg_pos {a b : Pg} : (0 < cmpPg a b) = (pgLt b a = true) := by
  unfold cmpPg pgLt
  simp only [orI, cmpI, Bool.or_eq_true, Bool.and_eq_true, decide_eq_true_eq, eq_iff_iff]
  grind
theorem prevE_nil {l : List Exc} {g : Pg} (h : l.length = 0) : prevE l g = true := by
  obtain rfl := List.length_eq_zero_iff.1 h
  rfl
theorem prevE_last {l : List Exc} {g : Pg} {j : Nat} (h : l.length = j + 1) : ∃ q y, l = q ++ [y] ∧ q.length = j ∧ prevE l g = !pgLt g y.pg := by
  rcases List.eq_nil_or_concat l with rfl | ⟨q, y, rfl⟩
  · simp at h
  · exact ⟨q, y, by simp, by simpa using h, by simp [prevE]⟩
theorem knownE_any {l : List Exc} {g : Pg} {f : Int} : (l.any fun o => decide (o.pg.pool = g.pool) && decide (o.pg.no = g.no) && decide (o.from_ = f)) = knownE l g f := rfl
def c108 : SCode := (.seq (.reg [⟨(some 1), .box 93 (.tmp 0), none⟩,
   ⟨(some 2), .assign (.const (.bool false)), none⟩])
(.seq (.reg [⟨(some 3), .fieldAddr 93 (.tmp 1) 0, none⟩,
    ⟨(some 4), .fieldAddr 44 (.tmp 3) 0, none⟩,
    ⟨(some 5), .load 2 (.tmp 4), none⟩,
    ⟨(some 6), .call ⟨(.value (.func 82)), #[(.tmp 5), (.const (.int .i64 1)), (.const (.int .i64 4))], #[2, 2, 2]⟩, none⟩,
    ⟨(some 7), .move (.tmp 6), none⟩,
    ⟨(some 8), .fieldAddr 93 (.tmp 1) 0, (some (7, true))⟩,
    ⟨(some 9), .fieldAddr 44 (.tmp 8) 1, (some (7, true))⟩,
    ⟨(some 10), .load 2 (.tmp 9), (some (7, true))⟩,
    ⟨(some 11), .call ⟨(.value (.func 82)), #[(.tmp 10), (.const (.int .i64 0)), (.const (.int .i64 15))], #[2, 2, 2]⟩, (some (7, true))⟩,
    ⟨(some 12), .pick (.tmp 7) (.tmp 11) (.const (.bool false)), none⟩,
    ⟨(some 13), .move (.tmp 12), none⟩,
    ⟨(some 14), .fieldAddr 93 (.tmp 1) 1, (some (13, true))⟩,
    ⟨(some 15), .load 2 (.tmp 14), (some (13, true))⟩,
    ⟨(some 16), .call ⟨(.value (.func 159)), #[(.tmp 15)], #[2]⟩, (some (13, true))⟩,
    ⟨(some 17), .pick (.tmp 13) (.tmp 16) (.const (.bool false)), none⟩,
    ⟨(some 18), .move (.tmp 17), none⟩,
    ⟨(some 19), .fieldAddr 93 (.tmp 1) 2, (some (18, true))⟩,
    ⟨(some 20), .load 2 (.tmp 19), (some (18, true))⟩,
    ⟨(some 21), .call ⟨(.value (.func 159)), #[(.tmp 20)], #[2]⟩, (some (18, true))⟩,
    ⟨(some 22), .pick (.tmp 18) (.tmp 21) (.const (.bool false)), none⟩,
    ⟨(some 23), .move (.tmp 22), none⟩,
    ⟨(some 24), .fieldAddr 93 (.tmp 1) 1, (some (23, true))⟩,
    ⟨(some 25), .load 2 (.tmp 24), (some (23, true))⟩,
    ⟨(some 26), .fieldAddr 93 (.tmp 1) 2, (some (23, true))⟩,
    ⟨(some 27), .load 2 (.tmp 26), (some (23, true))⟩,
    ⟨(some 28), .binOp .neq 2 (.tmp 25) (.tmp 27) 2, (some (23, true))⟩,
    ⟨(some 29), .pick (.tmp 23) (.tmp 28) (.const (.bool false)), none⟩,
    ⟨(some 2), .assign (.tmp 29), none⟩])
 .ret))
theorem s108 : slimF Tryz.f108 = some (c108, [.t 2], 30) := by kernel_rfl
theorem o108 : okF [(82, g82), (159, g159)] Tryz.f108 = true := by kernel_rfl
noncomputable def g108 : Fsem := sem1 enExc (fun e => True) (fun n e => .bool (excOk1 e))
@[go_sem] theorem g108_eq {n : Nat} {e : Exc} : g108 n [.agg [.int .i64 e.pg.pool, .int .i64 e.pg.no, .int .i64 e.from_, .int .i64 e.to_]] = ⟨True, .bool (excOk1 e)⟩ := sem1_eq (τ := 0) (E := enExc)
theorem p108 : Pure Tryz.prog 108 g108 := by
  refine sem1_pure fun τ e n h2 hpre => ?_
  have hT : Table Tryz.prog [(82, g82), (159, g159)] := (.cons p82 (.cons p159 .nil))
  have hn0 : n ≠ 0 := by omega
  refine SatP.of_body hT hm Tryz.func108 s108 o108 h2 (by simp) ?_
  simp (config := {contextual := true, maxSteps := 2000000, implicitDefEqProofs := false}) [c108, go_sem, excOk1]
def c196 : SCode := (.seq (.reg [⟨(some 2), .assign (.const (.bool false)), none⟩])
(.seq (.reg [⟨(some 3), .move (.tmp 0), none⟩,
    ⟨(some 4), .move (.tmp 0), none⟩,
    ⟨(some 5), .binOp .neq 2 (.tmp 3) (.tmp 4) 2, none⟩,
    ⟨(some 2), .assign (.tmp 5), none⟩])
 .ret))
theorem s196 : slimF Tryz.f196 = some (c196, [.t 2], 6) := by kernel_rfl
theorem o196 : okF [] Tryz.f196 = true := by kernel_rfl
noncomputable def g196 : Fsem := sem1 (En.int .i64) (fun x => True) (fun n x => .bool false)
@[go_sem] theorem g196_eq {n : Nat} {x : Int} : g196 n [.int .i64 x] = ⟨True, .bool false⟩ := sem1_eq (τ := 0) (E := (En.int .i64))
theorem p196 : Pure Tryz.prog 196 g196 := by
  refine sem1_pure fun τ x n h2 hpre => ?_
  have hT : Table Tryz.prog [] := .nil
  have hn0 : n ≠ 0 := by omega
  refine SatP.of_body hT hm Tryz.func196 s196 o196 h2 (by simp) ?_
  simp (config := {contextual := true, maxSteps := 2000000, implicitDefEqProofs := false}) [c196, go_sem]
def c161 : SCode := (.seq (.reg [⟨(some 4), .assign (.const (.int .i64 0)), none⟩])
(.seq (.reg [⟨(some 7), .move (.tmp 0), none⟩,
    ⟨(some 8), .call ⟨(.value (.func 196)), #[(.tmp 7)], #[2]⟩, none⟩,
    ⟨(some 5), .assign (.tmp 8), none⟩])
 (.seq (.reg [⟨(some 9), .move (.tmp 1), none⟩,
     ⟨(some 10), .call ⟨(.value (.func 196)), #[(.tmp 9)], #[2]⟩, none⟩,
     ⟨(some 6), .assign (.tmp 10), none⟩])
  (.seq (.seq (.reg [⟨(some 11), .move (.tmp 5), none⟩])
    (.cond (.tmp 11) (.seq (.seq (.reg [⟨(some 12), .move (.tmp 6), none⟩])
       (.cond (.tmp 12) (.seq (.reg [⟨(some 4), .assign (.const (.int .i64 0)), none⟩])
         .ret)
        .skip))
      (.seq (.reg [⟨(some 4), .assign (.const (.int .i64 (-1))), none⟩])
       .ret))
     .skip))
   (.seq (.seq (.reg [⟨(some 13), .move (.tmp 6), none⟩])
     (.cond (.tmp 13) (.seq (.reg [⟨(some 4), .assign (.const (.int .i64 1)), none⟩])
       .ret)
      .skip))
    (.seq (.seq (.reg [⟨(some 14), .move (.tmp 0), none⟩,
         ⟨(some 15), .move (.tmp 1), none⟩,
         ⟨(some 16), .binOp .lss 2 (.tmp 14) (.tmp 15) 2, none⟩])
      (.cond (.tmp 16) (.seq (.reg [⟨(some 4), .assign (.const (.int .i64 (-1))), none⟩])
        .ret)
       .skip))
     (.seq (.seq (.reg [⟨(some 17), .move (.tmp 0), none⟩,
          ⟨(some 18), .move (.tmp 1), none⟩,
          ⟨(some 19), .binOp .gtr 2 (.tmp 17) (.tmp 18) 2, none⟩])
       (.cond (.tmp 19) (.seq (.reg [⟨(some 4), .assign (.const (.int .i64 1)), none⟩])
         .ret)
        .skip))
      (.seq (.reg [⟨(some 4), .assign (.const (.int .i64 0)), none⟩])
       .ret))))))))
theorem s161 : slimF Tryz.f161 = some (c161, [.t 4], 20) := by kernel_rfl
theorem o161 : okF [(196, g196)] Tryz.f161 = true := by kernel_rfl
noncomputable def g161 : Fsem := sem2 (En.int .i64) (En.int .i64) (fun x y => True) (fun n x y => .int .i64 (cmpI x y))
@[go_sem] theorem g161_eq {n : Nat} {x : Int} {y : Int} : g161 n [.int .i64 x, .int .i64 y] = ⟨True, .int .i64 (cmpI x y)⟩ := sem2_eq (τ := 0) (τ' := 0) (E := (En.int .i64)) (F := (En.int .i64))
theorem p161 : Pure Tryz.prog 161 g161 := by
  refine sem2_pure fun τ τ' x y n h2 hpre => ?_
  have hT : Table Tryz.prog [(196, g196)] := (.cons p196 .nil)
  have hn0 : n ≠ 0 := by omega
  refine SatP.of_body hT hm Tryz.func161 s161 o161 h2 (by simp) ?_
  simp (config := {contextual := true, maxSteps := 2000000, implicitDefEqProofs := false}) [c161, go_sem, cmpI]
  grind
def c160 : SCode := (.seq (.reg [⟨(some 2), .assign (.const (.int .i64 0)), none⟩])
(.seq (.reg [⟨(some 3), .assign (.const (.int .i64 0)), none⟩])
 (.seq (.seq (.reg [⟨(some 6), .move (.tmp 0), none⟩,
      ⟨(some 7), .call ⟨(.builtin .len), #[(.tmp 6)], #[211]⟩, none⟩,
      ⟨(some 8), .move (.const (.int .i64 0)), none⟩])
   (.block 0 (.loop (.seq (.reg [⟨(some 9), .binOp .lss 3 (.tmp 8) (.tmp 7) 3, none⟩])
      (.seq (.cond (.tmp 9) .skip
        (.exit 0))
       (.seq (.block 1 (.seq (.reg [⟨(some 10), .indexAddr 211 (.tmp 6) (.tmp 8), none⟩,
             ⟨(some 11), .load 3 (.tmp 10), none⟩,
             ⟨(some 5), .assign (.tmp 11), none⟩])
          (.seq (.reg [⟨(some 12), .move (.tmp 5), none⟩,
              ⟨(some 13), .move (.tmp 3), none⟩,
              ⟨(some 14), .binOp .neq 3 (.tmp 12) (.tmp 13) 3, none⟩])
           (.cond (.tmp 14) (.seq (.reg [⟨(some 15), .move (.tmp 5), none⟩,
                ⟨(some 2), .assign (.tmp 15), none⟩])
             .ret)
            .skip))))
        (.reg [⟨(some 16), .binOp .add 3 (.tmp 8) (.const (.int .i64 1)) 3, none⟩,
           ⟨(some 8), .move (.tmp 16), none⟩])))))))
  (.seq (.reg [⟨(some 17), .move (.tmp 3), none⟩,
      ⟨(some 2), .assign (.tmp 17), none⟩])
   .ret))))
theorem s160 : slimF Tryz.f160 = some (c160, [.t 2], 18) := by kernel_rfl
theorem o160 : okF [] Tryz.f160 = true := by kernel_rfl
noncomputable def g160 : Fsem := sem1 (En.int .i64).list (fun l => True) (fun n l => .int .i64 (orI l))
@[go_sem] theorem g160_eq {n τ : Nat} {l : List Int} : g160 n [.sl τ 1 (l.map (AV.int .i64))] = ⟨True, .int .i64 (orI l)⟩ := sem1_eq  (E := (En.int .i64).list)
theorem p160 : Pure Tryz.prog 160 g160 := by
  refine sem1_pure fun τ l n h2 hpre => ?_
  have hT : Table Tryz.prog [] := .nil
  have hn0 : n ≠ 0 := by omega
  refine SatP.of_body hT hm Tryz.func160 s160 o160 h2 (by simp) ?_
  generalize hr : orI l = r
  simp (config := {contextual := true, maxSteps := 2000000, implicitDefEqProofs := false}) [c160, go_sem]
  intro hL
  refine VW_listK hT h2 hm l [3, 6, 7] (fun pre post (b : Unit) => [(8, .int .i64 pre.length)]) (fun pre post (b : Unit) => orI post = r) () ?_ ?_ ?_ ?_
  · exact hr
  · simp [SubI, go_sem]
  · rintro _ hR
    have hR' : 0 = r := hR
    simp (config := {contextual := true, maxSteps := 2000000, implicitDefEqProofs := false}) [go_sem, ← hR']
  · rintro pre x post _ hl hlen hR
    have hln : l.length = pre.length + (post.length + 1) := by rw [← hl]; simp
    have hn : nth (List.map (AV.int .i64) l) (pre.length) = (AV.int .i64) x := by rw [← hl]; simp [go_sem]
    have hw : l.length ≤ maxLen → IntKind.i64.wrap ((pre.length : Int) + 1) = (pre.length : Int) + 1 := fun h => wrap_ok (by omega) (by simp only [maxLen] at h; omega)
    have h3 : (0 : Int) ≤ (pre.length : Int) := by omega
    have h4 : (pre.length : Int) < (l.length : Int) := by omega
    have h5 : ¬ (l.length : Int) ≤ (pre.length : Int) := by omega
    simp only [orI] at hR
    simp (config := {contextual := true, maxSteps := 2000000, implicitDefEqProofs := false}) [go_sem, hn, hw, hL, h3, h4, h5, SubI]
    grind
def c109 : SCode := (.seq (.reg [⟨(some 2), .box 44 (.tmp 0), none⟩,
   ⟨(some 3), .box 44 (.tmp 1), none⟩,
   ⟨(some 4), .assign (.const (.int .i64 0)), none⟩])
(.seq (.draw [⟨(some 5), .fieldAddr 44 (.tmp 2) 0, none⟩,
    ⟨(some 6), .load 2 (.tmp 5), none⟩,
    ⟨(some 7), .fieldAddr 44 (.tmp 3) 0, none⟩,
    ⟨(some 8), .load 2 (.tmp 7), none⟩,
    ⟨(some 9), .call ⟨(.value (.func 161)), #[(.tmp 6), (.tmp 8)], #[2, 2]⟩, none⟩,
    ⟨(some 10), .fieldAddr 44 (.tmp 2) 1, none⟩,
    ⟨(some 11), .load 2 (.tmp 10), none⟩,
    ⟨(some 12), .fieldAddr 44 (.tmp 3) 1, none⟩,
    ⟨(some 13), .load 2 (.tmp 12), none⟩,
    ⟨(some 14), .call ⟨(.value (.func 161)), #[(.tmp 11), (.tmp 13)], #[2, 2]⟩, none⟩,
    ⟨(some 15), .buildSlice 211 2 #[(0, (.tmp 9)), (1, (.tmp 14))], none⟩,
    ⟨(some 16), .call ⟨(.value (.func 160)), #[(.tmp 15)], #[211]⟩, none⟩,
    ⟨(some 4), .assign (.tmp 16), none⟩] [[], [0], [], [2], [0, 1, 2, 3], [], [5], [], [7], [0, 1, 2, 3, 4, 5, 6, 7, 8], [0, 1, 2, 3, 4, 5, 6, 7, 8, 9], [0, 1, 2, 3, 4, 5, 6, 7, 8, 9, 10], [0, 1, 2, 3, 4, 5, 6, 7, 8, 9, 10, 11]])
 .ret))
theorem s109 : slimF Tryz.f109 = some (c109, [.t 4], 17) := by kernel_rfl
theorem o109 : okF [(161, g161), (160, g160)] Tryz.f109 = true := by kernel_rfl
noncomputable def g109 : Fsem := sem2 enPg enPg (fun a b => True) (fun n a b => .int .i64 (cmpPg a b))
@[go_sem] theorem g109_eq {n : Nat} {a : Pg} {b : Pg} : g109 n [.agg [.int .i64 a.pool, .int .i64 a.no], .agg [.int .i64 b.pool, .int .i64 b.no]] = ⟨True, .int .i64 (cmpPg a b)⟩ := sem2_eq (τ := 0) (τ' := 0) (E := enPg) (F := enPg)
theorem p109 : Pure Tryz.prog 109 g109 := by
  refine sem2_pure fun τ τ' a b n h2 hpre => ?_
  have hT : Table Tryz.prog [(161, g161), (160, g160)] := (.cons p161 (.cons p160 .nil))
  have hn0 : n ≠ 0 := by omega
  refine SatP.of_body hT hm Tryz.func109 s109 o109 h2 (by simp) ?_
  have hg := g160_eq (n := n) (τ := 0) (l := [cmpI a.pool b.pool, cmpI a.no b.no])
  simp only [List.map_cons, List.map_nil] at hg
  simp (config := {contextual := true, maxSteps := 2000000, implicitDefEqProofs := false}) [c109, go_sem, hg, cmpPg]
def c107 : SCode := (.seq (.reg [⟨(some 2), .box 93 (.tmp 0), none⟩,
   ⟨(some 3), .assign (.const (.bool false)), none⟩])
(.seq (.reg [⟨(some 4), .fieldAddr 93 (.tmp 2) 0, none⟩,
    ⟨(some 5), .load 44 (.tmp 4), none⟩,
    ⟨(some 6), .fieldAddr 93 (.tmp 1) 0, none⟩,
    ⟨(some 7), .load 44 (.tmp 6), none⟩,
    ⟨(some 8), .binOp .eql 44 (.tmp 5) (.tmp 7) 44, none⟩,
    ⟨(some 9), .move (.tmp 8), none⟩,
    ⟨(some 10), .fieldAddr 93 (.tmp 2) 1, (some (9, true))⟩,
    ⟨(some 11), .load 2 (.tmp 10), (some (9, true))⟩,
    ⟨(some 12), .fieldAddr 93 (.tmp 1) 1, (some (9, true))⟩,
    ⟨(some 13), .load 2 (.tmp 12), (some (9, true))⟩,
    ⟨(some 14), .binOp .eql 2 (.tmp 11) (.tmp 13) 2, (some (9, true))⟩,
    ⟨(some 15), .pick (.tmp 9) (.tmp 14) (.const (.bool false)), none⟩,
    ⟨(some 3), .assign (.tmp 15), none⟩])
 .ret))
theorem s107 : slimF Tryz.f107 = some (c107, [.t 3], 16) := by kernel_rfl
theorem o107 : okF [] Tryz.f107 = true := by kernel_rfl
noncomputable def g107 : Fsem := semOf (fun i : Exc × Nat × Exc => [.agg [.int .i64 i.1.pg.pool, .int .i64 i.1.pg.no, .int .i64 i.1.from_, .int .i64 i.1.to_], .dptr i.2.1 [.int .i64 i.2.2.pg.pool, .int .i64 i.2.2.pg.no, .int .i64 i.2.2.from_, .int .i64 i.2.2.to_]]) (fun _ => True) (fun _ i => .bool (decide (i.1.pg.pool = i.2.2.pg.pool) && decide (i.1.pg.no = i.2.2.pg.no) && decide (i.1.from_ = i.2.2.from_)))
@[go_sem] theorem g107_eq {n τ : Nat} {x e : Exc} : g107 n [.agg [.int .i64 x.pg.pool, .int .i64 x.pg.no, .int .i64 x.from_, .int .i64 x.to_], .dptr τ [.int .i64 e.pg.pool, .int .i64 e.pg.no, .int .i64 e.from_, .int .i64 e.to_]] = ⟨True, .bool (decide (x.pg.pool = e.pg.pool) && decide (x.pg.no = e.pg.no) && decide (x.from_ = e.from_))⟩ :=
  semOf_eq (x, τ, e) rfl fun ⟨_, _, _⟩ h => by
    simp at h
    simp [h]
theorem p107 : Pure Tryz.prog 107 g107 := by
  refine semOf_pure fun ⟨x, τ, e⟩ n h2 _ => ?_
  refine SatP.of_body Table.nil hm Tryz.func107 s107 o107 h2 (by simp) ?_
  simp (config := {contextual := true, implicitDefEqProofs := false}) [c107, go_sem]
  try grind
theorem s162 : slimF Tryz.f162 = some (idxC 46 93, [.t 4], 19) := by kernel_rfl
theorem o162_107 : okF [(107, g107)] Tryz.f162 = true := by kernel_rfl
noncomputable def g162_107 : Fsem := idxSem (ι := Nat × Exc) enExc 107 (fun i => [.dptr i.1 [.int .i64 i.2.pg.pool, .int .i64 i.2.pg.no, .int .i64 i.2.from_, .int .i64 i.2.to_]]) (fun i x => decide (x.pg.pool = i.2.pg.pool) && decide (x.pg.no = i.2.pg.no) && decide (x.from_ = i.2.from_))
@[go_sem] theorem g162_107_eq {n τ τ' : Nat} {l : List Exc} {e : Exc} : g162_107 n [.sl τ 4 (l.map (enExc.av τ)), .fn 107 [.dptr τ' [.int .i64 e.pg.pool, .int .i64 e.pg.no, .int .i64 e.from_, .int .i64 e.to_]]] = ⟨True, .int .i64 (idx (fun x => decide (x.pg.pool = e.pg.pool) && decide (x.pg.no = e.pg.no) && decide (x.from_ = e.from_)) l)⟩ :=
  idxSem_eq (E := enExc) (caps := fun i : Nat × Exc => [.dptr i.1 [.int .i64 i.2.pg.pool, .int .i64 i.2.pg.no, .int .i64 i.2.from_, .int .i64 i.2.to_]]) (p := fun i x => decide (x.pg.pool = i.2.pg.pool) && decide (x.pg.no = i.2.pg.no) && decide (x.from_ = i.2.from_)) (τ', e) (fun j h => by first | (simp at h; simp [h]; done) | (simp only [List.cons.injEq, AV.dptr.injEq, and_true] at h; skip))
theorem p162_107 : Pure Tryz.prog 162 g162_107 := idxSem_pure hm Tryz.func162 s162 o162_107 (by omega) ty_46 fit_93 p107 (fun i c hc => by simp at hc; subst hc; rfl) (fun i n τ x => by simp [go_sem])
noncomputable def g162 : Fsem := dsp [(107, g162_107)]
@[go_sem] theorem g162_dsp : g162 = dsp [(107, g162_107)] := rfl
theorem s110 : slimF Tryz.f110 = some (cfC 46 139 162, [.t 4], 9) := by kernel_rfl
theorem o110_107 : okF [(162, g162_107)] Tryz.f110 = true := by kernel_rfl
noncomputable def g110_107 : Fsem := cfSem (ι := Nat × Exc) enExc 107 (fun i => [.dptr i.1 [.int .i64 i.2.pg.pool, .int .i64 i.2.pg.no, .int .i64 i.2.from_, .int .i64 i.2.to_]]) (fun i x => decide (x.pg.pool = i.2.pg.pool) && decide (x.pg.no = i.2.pg.no) && decide (x.from_ = i.2.from_))
@[go_sem] theorem g110_107_eq {n τ τ' : Nat} {l : List Exc} {e : Exc} : g110_107 n [.sl τ 4 (l.map (enExc.av τ)), .fn 107 [.dptr τ' [.int .i64 e.pg.pool, .int .i64 e.pg.no, .int .i64 e.from_, .int .i64 e.to_]]] = ⟨True, .bool (l.any (fun x => decide (x.pg.pool = e.pg.pool) && decide (x.pg.no = e.pg.no) && decide (x.from_ = e.from_)))⟩ :=
  cfSem_eq (E := enExc) (caps := fun i : Nat × Exc => [.dptr i.1 [.int .i64 i.2.pg.pool, .int .i64 i.2.pg.no, .int .i64 i.2.from_, .int .i64 i.2.to_]]) (p := fun i x => decide (x.pg.pool = i.2.pg.pool) && decide (x.pg.no = i.2.pg.no) && decide (x.from_ = i.2.from_)) (τ', e) (fun j h => by simp at h; simp [h])
theorem p110_107 : Pure Tryz.prog 110 g110_107 := cfSem_pure hm Tryz.func110 s110 o110_107 (by omega) p162_107 (fun i c hc => by simp at hc; subst hc; rfl) (fun i n τ l => g162_107_eq)
def c95 : SCode := (.seq (.reg [⟨(some 2), .box 44 (.tmp 0), none⟩,
   ⟨(some 3), .box 44 (.tmp 1), none⟩,
   ⟨(some 4), .assign (.const (.bool false)), none⟩])
(.seq (.reg [⟨(some 5), .fieldAddr 44 (.tmp 2) 0, none⟩,
    ⟨(some 6), .load 2 (.tmp 5), none⟩,
    ⟨(some 7), .fieldAddr 44 (.tmp 3) 0, none⟩,
    ⟨(some 8), .load 2 (.tmp 7), none⟩,
    ⟨(some 9), .binOp .lss 2 (.tmp 6) (.tmp 8) 2, none⟩,
    ⟨(some 10), .move (.tmp 9), none⟩,
    ⟨(some 11), .fieldAddr 44 (.tmp 2) 0, (some (10, false))⟩,
    ⟨(some 12), .load 2 (.tmp 11), (some (10, false))⟩,
    ⟨(some 13), .fieldAddr 44 (.tmp 3) 0, (some (10, false))⟩,
    ⟨(some 14), .load 2 (.tmp 13), (some (10, false))⟩,
    ⟨(some 15), .binOp .eql 2 (.tmp 12) (.tmp 14) 2, (some (10, false))⟩,
    ⟨(some 16), .move (.tmp 15), (some (10, false))⟩,
    ⟨(some 17), .fieldAddr 44 (.tmp 2) 1, (some (16, true))⟩,
    ⟨(some 18), .load 2 (.tmp 17), (some (16, true))⟩,
    ⟨(some 19), .fieldAddr 44 (.tmp 3) 1, (some (16, true))⟩,
    ⟨(some 20), .load 2 (.tmp 19), (some (16, true))⟩,
    ⟨(some 21), .binOp .lss 2 (.tmp 18) (.tmp 20) 2, (some (16, true))⟩,
    ⟨(some 22), .pick (.tmp 16) (.tmp 21) (.const (.bool false)), (some (10, false))⟩,
    ⟨(some 23), .pick (.tmp 10) (.const (.bool true)) (.tmp 22), none⟩,
    ⟨(some 4), .assign (.tmp 23), none⟩])
 .ret))
theorem s95 : slimF Tryz.f95 = some (c95, [.t 4], 24) := by kernel_rfl
theorem o95 : okF [] Tryz.f95 = true := by kernel_rfl
noncomputable def g95 : Fsem := sem2 enPg enPg (fun a b => True) (fun n a b => .bool (pgLt a b))
@[go_sem] theorem g95_eq {n : Nat} {a : Pg} {b : Pg} : g95 n [.agg [.int .i64 a.pool, .int .i64 a.no], .agg [.int .i64 b.pool, .int .i64 b.no]] = ⟨True, .bool (pgLt a b)⟩ := sem2_eq (τ := 0) (τ' := 0) (E := enPg) (F := enPg)
theorem p95 : Pure Tryz.prog 95 g95 := by
  refine sem2_pure fun τ τ' a b n h2 hpre => ?_
  have hT : Table Tryz.prog [] := .nil
  have hn0 : n ≠ 0 := by omega
  refine SatP.of_body hT hm Tryz.func95 s95 o95 h2 (by simp) ?_
  simp (config := {contextual := true, maxSteps := 2000000, implicitDefEqProofs := false}) [c95, go_sem, pgLt]
def c96 : SCode := (.seq (.reg [⟨(some 4), .box 44 (.tmp 1), none⟩,
   ⟨(some 6), .assign (.const (.bool false)), none⟩])
(.seq (.seq (.reg [⟨(some 7), .assign (.const (.int .i64 0)), none⟩])
  (.block 0 (.loop (.seq (.seq (.reg [⟨(some 8), .move (.tmp 7), none⟩,
         ⟨(some 9), .move (.tmp 0), none⟩,
         ⟨(some 10), .call ⟨(.builtin .len), #[(.tmp 9)], #[46]⟩, none⟩,
         ⟨(some 11), .binOp .lss 3 (.tmp 8) (.tmp 10) 3, none⟩])
      (.cond (.tmp 11) .skip
       (.exit 0)))
     (.seq (.block 1 (.seq (.draw [⟨(some 14), .move (.tmp 0), none⟩,
           ⟨(some 15), .move (.tmp 7), none⟩,
           ⟨(some 16), .indexAddr 46 (.tmp 14) (.tmp 15), none⟩,
           ⟨(some 17), .fieldAddr 93 (.tmp 16) 0, none⟩,
           ⟨(some 18), .load 44 (.tmp 17), none⟩,
           ⟨(some 19), .load 44 (.tmp 4), none⟩,
           ⟨(some 20), .binOp .eql 44 (.tmp 18) (.tmp 19) 44, none⟩,
           ⟨(some 21), .move (.tmp 20), none⟩,
           ⟨(some 22), .move (.tmp 0), (some (21, true))⟩,
           ⟨(some 23), .move (.tmp 7), (some (21, true))⟩,
           ⟨(some 24), .indexAddr 46 (.tmp 22) (.tmp 23), (some (21, true))⟩,
           ⟨(some 25), .fieldAddr 93 (.tmp 24) 1, (some (21, true))⟩,
           ⟨(some 26), .load 2 (.tmp 25), (some (21, true))⟩,
           ⟨(some 27), .move (.tmp 2), (some (21, true))⟩,
           ⟨(some 28), .binOp .eql 2 (.tmp 26) (.tmp 27) 2, (some (21, true))⟩,
           ⟨(some 29), .pick (.tmp 21) (.tmp 28) (.const (.bool false)), none⟩] [[], [], [0, 1], [0, 1, 2], [0, 1, 2, 3], [], [0, 1, 2, 3, 4, 5], [0, 1, 2, 3, 4, 5, 6], [0, 1, 2, 3, 4, 5, 6, 7], [0, 1, 2, 3, 4, 5, 6, 7], [0, 1, 2, 3, 4, 5, 6, 7, 8, 9], [0, 1, 2, 3, 4, 5, 6, 7, 8, 9, 10], [0, 1, 2, 3, 4, 5, 6, 7, 8, 9, 10, 11], [0, 1, 2, 3, 4, 5, 6, 7], [0, 1, 2, 3, 4, 5, 6, 7, 8, 9, 10, 11, 12, 13], [0, 1, 2, 3, 4, 5, 6, 7, 8, 9, 10, 11, 12, 13, 14]])
        (.cond (.tmp 29) (.seq (.reg [⟨(some 6), .assign (.const (.bool true)), none⟩])
          .ret)
         .skip)))
      (.reg [⟨(some 12), .move (.tmp 7), none⟩,
         ⟨(some 13), .binOp .add 3 (.tmp 12) (.const (.int .i64 1)) 3, none⟩,
         ⟨(some 7), .assign (.tmp 13), none⟩]))))))
 (.seq (.reg [⟨(some 6), .assign (.const (.bool false)), none⟩])
  .ret)))
theorem s96 : slimF Tryz.f96 = some (c96, [.t 6], 30) := by kernel_rfl
theorem o96 : okF [] Tryz.f96 = true := by kernel_rfl
noncomputable def g96 : Fsem := sem3 enExc.list enPg (En.int .i64) (fun l g f => True) (fun n l g f => .bool (knownE l g f))
@[go_sem] theorem g96_eq {n τ : Nat} {l : List Exc} {g : Pg} {f : Int} : g96 n [.sl τ 4 (l.map (enExc.av τ)), .agg [.int .i64 g.pool, .int .i64 g.no], .int .i64 f] = ⟨True, .bool (knownE l g f)⟩ := sem3_eq (τ' := 0) (τ'' := 0) (E := enExc.list) (F := enPg) (G := (En.int .i64))
theorem p96 : Pure Tryz.prog 96 g96 := by
  refine sem3_pure fun τ τ' τ'' l g f n h2 hpre => ?_
  have hT : Table Tryz.prog [] := .nil
  have hn0 : n ≠ 0 := by omega
  refine SatP.of_body hT hm Tryz.func96 s96 o96 h2 (by simp) ?_
  generalize hr : knownE l g f = r
  simp (config := {contextual := true, maxSteps := 2000000, implicitDefEqProofs := false}) [c96, go_sem]
  refine VW_listK hT h2 hm l [0, 2, 4] (fun pre post (b : Unit) => [(7, .int .i64 pre.length)]) (fun pre post (b : Unit) => knownE post g f = r) () ?_ ?_ ?_ ?_
  · exact hr
  · simp [SubI, go_sem]
  · rintro _ hR
    have hR' : false = r := hR
    simp (config := {contextual := true, maxSteps := 2000000, implicitDefEqProofs := false}) [go_sem, ← hR']
  · rintro pre x post _ hl hlen hR
    have hln : l.length = pre.length + (post.length + 1) := by rw [← hl]; simp
    have hn : nth (List.map (enExc.av τ) l) (pre.length) = (enExc.av τ) x := by rw [← hl]; simp [go_sem]
    have hw : l.length ≤ maxLen → IntKind.i64.wrap ((pre.length : Int) + 1) = (pre.length : Int) + 1 := fun h => wrap_ok (by omega) (by simp only [maxLen] at h; omega)
    have h3 : (0 : Int) ≤ (pre.length : Int) := by omega
    have h4 : (pre.length : Int) < (l.length : Int) := by omega
    have h5 : ¬ (l.length : Int) ≤ (pre.length : Int) := by omega
    simp only [knownE, List.any_cons] at hR
    simp (config := {contextual := true, maxSteps := 2000000, implicitDefEqProofs := false}) [go_sem, hn, hw, h3, h4, h5, SubI, knownE]
    grind
end Go.Ve
namespace Go.Ve
open Go.Proofs Go.RowKit
set_option linter.unusedVariables false
set_option linter.unusedSimpArgs false
set_option maxRecDepth 10000
set_option maxHeartbeats 4000000
def c52 : SCode := (.seq (.reg [⟨(some 2), .assign (.const (.bool false)), none⟩])
(.seq (.seq (.reg [⟨(some 6), .move (.tmp 0), none⟩,
     ⟨(some 7), .call ⟨(.builtin .len), #[(.tmp 6)], #[46]⟩, none⟩,
     ⟨(some 8), .move (.const (.int .i64 0)), none⟩])
  (.block 0 (.loop (.seq (.reg [⟨(some 9), .binOp .lss 3 (.tmp 8) (.tmp 7) 3, none⟩])
     (.seq (.cond (.tmp 9) .skip
       (.exit 0))
      (.seq (.block 1 (.seq (.reg [⟨(some 10), .move (.tmp 8), none⟩,
            ⟨(some 11), .indexAddr 46 (.tmp 6) (.tmp 8), none⟩,
            ⟨(some 12), .load 93 (.tmp 11), none⟩,
            ⟨(some 4), .alloc 93, none⟩,
            ⟨(some 3), .assign (.tmp 10), none⟩,
            ⟨none, .store 93 (.tmp 4) (.tmp 12), none⟩])
         (.seq (.reg [⟨(some 13), .makeFunc (Fn.func 107) #[] #[(.tmp 4)], none⟩,
             ⟨(some 5), .assign (.tmp 13), none⟩])
          (.seq (.draw [⟨(some 14), .load 93 (.tmp 4), none⟩,
              ⟨(some 15), .call ⟨(.value (.func 108)), #[(.tmp 14)], #[93]⟩, none⟩,
              ⟨(some 16), .unOp .not 4 (.tmp 15), none⟩,
              ⟨(some 17), .move (.tmp 16), none⟩,
              ⟨(some 18), .move (.tmp 3), (some (17, false))⟩,
              ⟨(some 19), .binOp .gtr 3 (.tmp 18) (.const (.int .i64 0)) 3, (some (17, false))⟩,
              ⟨(some 20), .move (.tmp 19), (some (17, false))⟩,
              ⟨(some 21), .move (.tmp 0), (some (20, true))⟩,
              ⟨(some 22), .move (.tmp 3), (some (20, true))⟩,
              ⟨(some 23), .binOp .sub 3 (.tmp 22) (.const (.int .i64 1)) 3, (some (20, true))⟩,
              ⟨(some 24), .indexAddr 46 (.tmp 21) (.tmp 23), (some (20, true))⟩,
              ⟨(some 25), .fieldAddr 93 (.tmp 24) 0, (some (20, true))⟩,
              ⟨(some 26), .load 44 (.tmp 25), (some (20, true))⟩,
              ⟨(some 27), .fieldAddr 93 (.tmp 4) 0, (some (20, true))⟩,
              ⟨(some 28), .load 44 (.tmp 27), (some (20, true))⟩,
              ⟨(some 29), .call ⟨(.value (.func 109)), #[(.tmp 26), (.tmp 28)], #[44, 44]⟩, (some (20, true))⟩,
              ⟨(some 30), .binOp .gtr 3 (.tmp 29) (.const (.int .i64 0)) 3, (some (20, true))⟩,
              ⟨(some 31), .pick (.tmp 20) (.tmp 30) (.const (.bool false)), (some (17, false))⟩,
              ⟨(some 32), .pick (.tmp 17) (.const (.bool true)) (.tmp 31), none⟩,
              ⟨(some 33), .move (.tmp 32), none⟩,
              ⟨(some 34), .move (.tmp 0), (some (33, false))⟩,
              ⟨(some 35), .move (.tmp 3), (some (33, false))⟩,
              ⟨(some 36), .slice 46 (.tmp 34) none (some (.tmp 35)) none, (some (33, false))⟩,
              ⟨(some 37), .move (.tmp 5), (some (33, false))⟩,
              ⟨(some 38), .call ⟨(.value (.func 110)), #[(.tmp 36), (.tmp 37)], #[46, 139]⟩, (some (33, false))⟩,
              ⟨(some 39), .pick (.tmp 33) (.const (.bool true)) (.tmp 38), none⟩] [[], [0], [0, 1], [0, 1, 2], [0, 1, 2, 3], [0, 1, 2, 3, 4], [0, 1, 2, 3, 4, 5], [0, 1, 2, 3, 4, 5, 6], [0, 1, 2, 3, 4, 5, 6], [0, 1, 2, 3, 4, 5, 6, 8], [0, 1, 2, 3, 4, 5, 6, 7, 8, 9], [0, 1, 2, 3, 4, 5, 6, 7, 8, 9, 10], [0, 1, 2, 3, 4, 5, 6, 7, 8, 9, 10, 11], [0, 1, 2, 3, 4, 5, 6], [0, 1, 2, 3, 4, 5, 6, 13], [0, 1, 2, 3, 4, 5, 6, 7, 8, 9, 10, 11, 12, 13, 14], [0, 1, 2, 3, 4, 5, 6, 7, 8, 9, 10, 11, 12, 13, 14, 15], [0, 1, 2, 3, 4, 5, 6, 7, 8, 9, 10, 11, 12, 13, 14, 15, 16], [0, 1, 2, 3, 4, 5, 6, 7, 8, 9, 10, 11, 12, 13, 14, 15, 16, 17], [0, 1, 2, 3, 4, 5, 6, 7, 8, 9, 10, 11, 12, 13, 14, 15, 16, 17, 18], [0, 1, 2, 3, 4, 5, 6, 7, 8, 9, 10, 11, 12, 13, 14, 15, 16, 17, 18, 19], [0, 1, 2, 3, 4, 5, 6, 7, 8, 9, 10, 11, 12, 13, 14, 15, 16, 17, 18, 19], [0, 1, 2, 3, 4, 5, 6, 7, 8, 9, 10, 11, 12, 13, 14, 15, 16, 17, 18, 19, 20, 21], [0, 1, 2, 3, 4, 5, 6, 7, 8, 9, 10, 11, 12, 13, 14, 15, 16, 17, 18, 19], [0, 1, 2, 3, 4, 5, 6, 7, 8, 9, 10, 11, 12, 13, 14, 15, 16, 17, 18, 19, 20, 21, 22, 23], [0, 1, 2, 3, 4, 5, 6, 7, 8, 9, 10, 11, 12, 13, 14, 15, 16, 17, 18, 19, 20, 21, 22, 23, 24]])
           (.cond (.tmp 39) (.seq (.reg [⟨(some 2), .assign (.const (.bool false)), none⟩])
             .ret)
            .skip)))))
       (.reg [⟨(some 40), .binOp .add 3 (.tmp 8) (.const (.int .i64 1)) 3, none⟩,
          ⟨(some 8), .move (.tmp 40), none⟩])))))))
 (.seq (.reg [⟨(some 41), .move (.tmp 0), none⟩,
     ⟨(some 42), .call ⟨(.builtin .len), #[(.tmp 41)], #[46]⟩, none⟩,
     ⟨(some 43), .binOp .leq 3 (.tmp 42) (.const (.int .i64 16)) 3, none⟩,
     ⟨(some 2), .assign (.tmp 43), none⟩])
  .ret)))
theorem s52 : slimF Tryz.f52 = some (c52, [.t 2], 44) := by kernel_rfl
theorem o52 : okF [(108, g108), (109, g109), (110, (dsp [(107, g110_107)]))] Tryz.f52 = true := by kernel_rfl
noncomputable def g52 : Fsem := sem1 enExc.list (fun l => True) (fun n l => .bool (excsOk l))
@[go_sem] theorem g52_eq {n τ : Nat} {l : List Exc} : g52 n [.sl τ 4 (l.map (enExc.av τ))] = ⟨True, .bool (excsOk l)⟩ := sem1_eq  (E := enExc.list)
theorem p52 : Pure Tryz.prog 52 g52 := by
  refine sem1_pure fun τ l n h2 hpre => ?_
  have hT : Table Tryz.prog [(108, g108), (109, g109), (110, (dsp [(107, g110_107)]))] := (.cons p108 (.cons p109 (.cons (dsp_pure (by simp only [List.mem_cons, List.not_mem_nil, or_false, forall_eq]; exact p110_107)) .nil)))
  have hn0 : n ≠ 0 := by omega
  refine SatP.of_body hT hm Tryz.func52 s52 o52 h2 (by simp) ?_
  simp only [excsOk]
  generalize hr : excL [] l = r
  simp (config := {contextual := true, maxSteps := 2000000, implicitDefEqProofs := false}) [c52, go_sem]
  intro hL
  refine VW_listKE [] [] hT h2 hm l [0, 6, 7] (fun pre post (b : Unit) => []) (fun pre post (b : Unit) => [(8, .int .i64 pre.length)]) (fun pre post (b : Unit) => excL pre post = r) () ?_ ?_ ?_ ?_
  · exact hr
  · simp [SubE, SubR, go_sem]
  · rintro _ hR
    have hR' : true = r := hR
    simp (config := {contextual := true, maxSteps := 2000000, implicitDefEqProofs := false}) [go_sem, ← hR']
    intro _
    omega
  · rintro pre0 x rest _ hl hlen hR
    have hln : l.length = pre0.length + (rest.length + 1) := by rw [← hl]; simp
    have hn : nth (List.map (enExc.av τ) l) (pre0.length) = (enExc.av τ) x := by rw [← hl]; simp [go_sem]
    have hw : l.length ≤ maxLen → IntKind.i64.wrap ((pre0.length : Int) + 1) = (pre0.length : Int) + 1 := fun h => wrap_ok (by omega) (by simp only [maxLen] at h; omega)
    have h3 : (0 : Int) ≤ (pre0.length : Int) := by omega
    have h4 : (pre0.length : Int) < (l.length : Int) := by omega
    have h5 : ¬ (l.length : Int) ≤ (pre0.length : Int) := by omega
    have htk : List.take pre0.length (List.map (enExc.av τ) l) = List.map (enExc.av τ) pre0 := by rw [← hl]; simp
    have hpm : pre0.length ≤ l.length := by omega
    simp only [excL] at hR
    rcases Nat.eq_zero_or_pos pre0.length with h0 | h0
    · have hz : ¬ (0 : Int) < (pre0.length : Int) := by omega
      have hz2 : ¬ 0 < pre0.length := by omega
      rw [prevE_nil h0] at hR
      simp (config := {contextual := true, maxSteps := 2000000, implicitDefEqProofs := false}) [go_sem, hn, hw, h3, h4, h5, htk, hpm, hz, hz2, cmpPg_pos, knownE_any, hL, SubE, SubR]
      grind
    · obtain ⟨j, hj⟩ : ∃ j, pre0.length = j + 1 := ⟨pre0.length - 1, by omega⟩
      obtain ⟨q, y, hq, hqj, hpv⟩ := prevE_last (g := x.pg) hj
      rw [hpv] at hR
      have hz : (0 : Int) < (pre0.length : Int) := by omega
      have hz2 : 0 < pre0.length := by omega
      have hw1 : IntKind.i64.wrap ((pre0.length : Int) - 1) = (j : Int) := by rw [show (pre0.length : Int) - 1 = (j : Int) by omega]; exact wrap_ok (by omega) (by simp only [maxLen] at hL; omega)
      have hj0 : (0 : Int) ≤ (j : Int) := by omega
      have hj1 : (j : Int) < (l.length : Int) := by omega
      have hny : nth (List.map (enExc.av τ) l) j = enExc.av τ y := by rw [← hl, hq, ← hqj]; simp [go_sem]
      simp (config := {contextual := true, maxSteps := 2000000, implicitDefEqProofs := false}) [go_sem, hn, hw, h3, h4, h5, htk, hpm, hz, hz2, hw1, hj0, hj1, hny, cmpPg_pos, knownE_any, hL, SubE, SubR]
      grind
def c45 : SCode := (.seq (.reg [⟨(some 2), .assign (.const (.bool false)), none⟩])
(.seq (.seq (.reg [⟨(some 5), .move (.tmp 0), none⟩,
     ⟨(some 6), .call ⟨(.builtin .len), #[(.tmp 5)], #[46]⟩, none⟩,
     ⟨(some 7), .binOp .gtr 3 (.tmp 6) (.const (.int .i64 16)) 3, none⟩])
  (.cond (.tmp 7) (.seq (.reg [⟨(some 2), .assign (.const (.bool false)), none⟩])
    .ret)
   .skip))
 (.seq (.seq (.reg [⟨(some 3), .assign (.const (.int .i64 0)), none⟩])
   (.block 0 (.loop (.seq (.seq (.reg [⟨(some 8), .move (.tmp 3), none⟩,
          ⟨(some 9), .move (.tmp 0), none⟩,
          ⟨(some 10), .call ⟨(.builtin .len), #[(.tmp 9)], #[46]⟩, none⟩,
          ⟨(some 11), .binOp .lss 3 (.tmp 8) (.tmp 10) 3, none⟩])
       (.cond (.tmp 11) .skip
        (.exit 0)))
      (.seq (.block 1 (.seq (.reg [⟨(some 14), .move (.tmp 0), none⟩,
            ⟨(some 15), .move (.tmp 3), none⟩,
            ⟨(some 16), .indexAddr 46 (.tmp 14) (.tmp 15), none⟩,
            ⟨(some 17), .load 93 (.tmp 16), none⟩,
            ⟨(some 4), .alloc 93, none⟩,
            ⟨none, .store 93 (.tmp 4) (.tmp 17), none⟩])
         (.seq (.draw [⟨(some 18), .fieldAddr 93 (.tmp 4) 0, none⟩,
             ⟨(some 19), .fieldAddr 44 (.tmp 18) 0, none⟩,
             ⟨(some 20), .load 2 (.tmp 19), none⟩,
             ⟨(some 21), .call ⟨(.value (.func 93)), #[(.tmp 20), (.const (.int .i64 1)), (.const (.int .i64 4))], #[2, 2, 2]⟩, none⟩,
             ⟨(some 22), .unOp .not 4 (.tmp 21), none⟩,
             ⟨(some 23), .move (.tmp 22), none⟩,
             ⟨(some 24), .fieldAddr 93 (.tmp 4) 0, (some (23, false))⟩,
             ⟨(some 25), .fieldAddr 44 (.tmp 24) 1, (some (23, false))⟩,
             ⟨(some 26), .load 2 (.tmp 25), (some (23, false))⟩,
             ⟨(some 27), .call ⟨(.value (.func 93)), #[(.tmp 26), (.const (.int .i64 0)), (.const (.int .i64 15))], #[2, 2, 2]⟩, (some (23, false))⟩,
             ⟨(some 28), .unOp .not 4 (.tmp 27), (some (23, false))⟩,
             ⟨(some 29), .pick (.tmp 23) (.const (.bool true)) (.tmp 28), none⟩,
             ⟨(some 30), .move (.tmp 29), none⟩,
             ⟨(some 31), .fieldAddr 93 (.tmp 4) 1, (some (30, false))⟩,
             ⟨(some 32), .load 2 (.tmp 31), (some (30, false))⟩,
             ⟨(some 33), .call ⟨(.value (.func 93)), #[(.tmp 32), (.const (.int .i64 0)), (.const (.int .i64 15))], #[2, 2, 2]⟩, (some (30, false))⟩,
             ⟨(some 34), .unOp .not 4 (.tmp 33), (some (30, false))⟩,
             ⟨(some 35), .pick (.tmp 30) (.const (.bool true)) (.tmp 34), none⟩,
             ⟨(some 36), .move (.tmp 35), none⟩,
             ⟨(some 37), .fieldAddr 93 (.tmp 4) 2, (some (36, false))⟩,
             ⟨(some 38), .load 2 (.tmp 37), (some (36, false))⟩,
             ⟨(some 39), .call ⟨(.value (.func 93)), #[(.tmp 38), (.const (.int .i64 0)), (.const (.int .i64 15))], #[2, 2, 2]⟩, (some (36, false))⟩,
             ⟨(some 40), .unOp .not 4 (.tmp 39), (some (36, false))⟩,
             ⟨(some 41), .pick (.tmp 36) (.const (.bool true)) (.tmp 40), none⟩,
             ⟨(some 42), .move (.tmp 41), none⟩,
             ⟨(some 43), .fieldAddr 93 (.tmp 4) 1, (some (42, false))⟩,
             ⟨(some 44), .load 2 (.tmp 43), (some (42, false))⟩,
             ⟨(some 45), .fieldAddr 93 (.tmp 4) 2, (some (42, false))⟩,
             ⟨(some 46), .load 2 (.tmp 45), (some (42, false))⟩,
             ⟨(some 47), .binOp .eql 2 (.tmp 44) (.tmp 46) 2, (some (42, false))⟩,
             ⟨(some 48), .pick (.tmp 42) (.const (.bool true)) (.tmp 47), none⟩,
             ⟨(some 49), .move (.tmp 48), none⟩,
             ⟨(some 50), .move (.tmp 3), (some (49, false))⟩,
             ⟨(some 51), .binOp .gtr 3 (.tmp 50) (.const (.int .i64 0)) 3, (some (49, false))⟩,
             ⟨(some 52), .move (.tmp 51), (some (49, false))⟩,
             ⟨(some 53), .fieldAddr 93 (.tmp 4) 0, (some (52, true))⟩,
             ⟨(some 54), .load 44 (.tmp 53), (some (52, true))⟩,
             ⟨(some 55), .move (.tmp 0), (some (52, true))⟩,
             ⟨(some 56), .move (.tmp 3), (some (52, true))⟩,
             ⟨(some 57), .binOp .sub 3 (.tmp 56) (.const (.int .i64 1)) 3, (some (52, true))⟩,
             ⟨(some 58), .indexAddr 46 (.tmp 55) (.tmp 57), (some (52, true))⟩,
             ⟨(some 59), .fieldAddr 93 (.tmp 58) 0, (some (52, true))⟩,
             ⟨(some 60), .load 44 (.tmp 59), (some (52, true))⟩,
             ⟨(some 61), .call ⟨(.value (.func 95)), #[(.tmp 54), (.tmp 60)], #[44, 44]⟩, (some (52, true))⟩,
             ⟨(some 62), .pick (.tmp 52) (.tmp 61) (.const (.bool false)), (some (49, false))⟩,
             ⟨(some 63), .pick (.tmp 49) (.const (.bool true)) (.tmp 62), none⟩,
             ⟨(some 64), .move (.tmp 63), none⟩,
             ⟨(some 65), .move (.tmp 0), (some (64, false))⟩,
             ⟨(some 66), .move (.tmp 3), (some (64, false))⟩,
             ⟨(some 67), .slice 46 (.tmp 65) none (some (.tmp 66)) none, (some (64, false))⟩,
             ⟨(some 68), .fieldAddr 93 (.tmp 4) 0, (some (64, false))⟩,
             ⟨(some 69), .load 44 (.tmp 68), (some (64, false))⟩,
             ⟨(some 70), .fieldAddr 93 (.tmp 4) 1, (some (64, false))⟩,
             ⟨(some 71), .load 2 (.tmp 70), (some (64, false))⟩,
             ⟨(some 72), .call ⟨(.value (.func 96)), #[(.tmp 67), (.tmp 69), (.tmp 71)], #[46, 44, 2]⟩, (some (64, false))⟩,
             ⟨(some 73), .pick (.tmp 64) (.const (.bool true)) (.tmp 72), none⟩] [[], [0], [0, 1], [0, 1, 2], [0, 1, 2, 3], [0, 1, 2, 3, 4], [0, 1, 2, 3, 4, 5], [0, 1, 2, 3, 4, 5, 6], [0, 1, 2, 3, 4, 5, 6, 7], [0, 1, 2, 3, 4, 5, 6, 7, 8], [0, 1, 2, 3, 4, 5, 6, 7, 8, 9], [0, 1, 2, 3, 4, 5, 6, 7, 8, 9, 10], [0, 1, 2, 3, 4, 5, 6, 7, 8, 9, 10, 11], [0, 1, 2, 3, 4, 5, 6, 7, 8, 9, 10, 11, 12], [0, 1, 2, 3, 4, 5, 6, 7, 8, 9, 10, 11, 12, 13], [0, 1, 2, 3, 4, 5, 6, 7, 8, 9, 10, 11, 12, 13, 14], [0, 1, 2, 3, 4, 5, 6, 7, 8, 9, 10, 11, 12, 13, 14, 15], [0, 1, 2, 3, 4, 5, 6, 7, 8, 9, 10, 11, 12, 13, 14, 15, 16], [0, 1, 2, 3, 4, 5, 6, 7, 8, 9, 10, 11, 12, 13, 14, 15, 16, 17], [0, 1, 2, 3, 4, 5, 6, 7, 8, 9, 10, 11, 12, 13, 14, 15, 16, 17, 18], [0, 1, 2, 3, 4, 5, 6, 7, 8, 9, 10, 11, 12, 13, 14, 15, 16, 17, 18, 19], [0, 1, 2, 3, 4, 5, 6, 7, 8, 9, 10, 11, 12, 13, 14, 15, 16, 17, 18, 19, 20], [0, 1, 2, 3, 4, 5, 6, 7, 8, 9, 10, 11, 12, 13, 14, 15, 16, 17, 18, 19, 20, 21], [0, 1, 2, 3, 4, 5, 6, 7, 8, 9, 10, 11, 12, 13, 14, 15, 16, 17, 18, 19, 20, 21, 22], [0, 1, 2, 3, 4, 5, 6, 7, 8, 9, 10, 11, 12, 13, 14, 15, 16, 17, 18, 19, 20, 21, 22, 23], [0, 1, 2, 3, 4, 5, 6, 7, 8, 9, 10, 11, 12, 13, 14, 15, 16, 17, 18, 19, 20, 21, 22, 23, 24], [0, 1, 2, 3, 4, 5, 6, 7, 8, 9, 10, 11, 12, 13, 14, 15, 16, 17, 18, 19, 20, 21, 22, 23, 24, 25], [0, 1, 2, 3, 4, 5, 6, 7, 8, 9, 10, 11, 12, 13, 14, 15, 16, 17, 18, 19, 20, 21, 22, 23, 24], [0, 1, 2, 3, 4, 5, 6, 7, 8, 9, 10, 11, 12, 13, 14, 15, 16, 17, 18, 19, 20, 21, 22, 23, 24, 27], [0, 1, 2, 3, 4, 5, 6, 7, 8, 9, 10, 11, 12, 13, 14, 15, 16, 17, 18, 19, 20, 21, 22, 23, 24, 25, 26, 27, 28], [0, 1, 2, 3, 4, 5, 6, 7, 8, 9, 10, 11, 12, 13, 14, 15, 16, 17, 18, 19, 20, 21, 22, 23, 24, 25, 26, 27, 28, 29], [0, 1, 2, 3, 4, 5, 6, 7, 8, 9, 10, 11, 12, 13, 14, 15, 16, 17, 18, 19, 20, 21, 22, 23, 24, 25, 26, 27, 28, 29, 30], [0, 1, 2, 3, 4, 5, 6, 7, 8, 9, 10, 11, 12, 13, 14, 15, 16, 17, 18, 19, 20, 21, 22, 23, 24, 25, 26, 27, 28, 29, 30, 31], [0, 1, 2, 3, 4, 5, 6, 7, 8, 9, 10, 11, 12, 13, 14, 15, 16, 17, 18, 19, 20, 21, 22, 23, 24, 25, 26, 27, 28, 29, 30, 31, 32], [0, 1, 2, 3, 4, 5, 6, 7, 8, 9, 10, 11, 12, 13, 14, 15, 16, 17, 18, 19, 20, 21, 22, 23, 24, 25, 26, 27, 28, 29, 30, 31, 32, 33], [0, 1, 2, 3, 4, 5, 6, 7, 8, 9, 10, 11, 12, 13, 14, 15, 16, 17, 18, 19, 20, 21, 22, 23, 24, 25, 26, 27, 28, 29, 30, 31, 32, 33, 34], [0, 1, 2, 3, 4, 5, 6, 7, 8, 9, 10, 11, 12, 13, 14, 15, 16, 17, 18, 19, 20, 21, 22, 23, 24, 25, 26, 27, 28, 29, 30, 31, 32, 33, 34, 35], [0, 1, 2, 3, 4, 5, 6, 7, 8, 9, 10, 11, 12, 13, 14, 15, 16, 17, 18, 19, 20, 21, 22, 23, 24, 25, 26, 27, 28, 29, 30, 31, 32, 33, 34], [0, 1, 2, 3, 4, 5, 6, 7, 8, 9, 10, 11, 12, 13, 14, 15, 16, 17, 18, 19, 20, 21, 22, 23, 24, 25, 26, 27, 28, 29, 30, 31, 32, 33, 34], [0, 1, 2, 3, 4, 5, 6, 7, 8, 9, 10, 11, 12, 13, 14, 15, 16, 17, 18, 19, 20, 21, 22, 23, 24, 25, 26, 27, 28, 29, 30, 31, 32, 33, 34, 38], [0, 1, 2, 3, 4, 5, 6, 7, 8, 9, 10, 11, 12, 13, 14, 15, 16, 17, 18, 19, 20, 21, 22, 23, 24, 25, 26, 27, 28, 29, 30, 31, 32, 33, 34, 37, 38, 39], [0, 1, 2, 3, 4, 5, 6, 7, 8, 9, 10, 11, 12, 13, 14, 15, 16, 17, 18, 19, 20, 21, 22, 23, 24, 25, 26, 27, 28, 29, 30, 31, 32, 33, 34, 37, 38, 39, 40], [0, 1, 2, 3, 4, 5, 6, 7, 8, 9, 10, 11, 12, 13, 14, 15, 16, 17, 18, 19, 20, 21, 22, 23, 24, 25, 26, 27, 28, 29, 30, 31, 32, 33, 34, 37, 38, 39, 40, 41], [0, 1, 2, 3, 4, 5, 6, 7, 8, 9, 10, 11, 12, 13, 14, 15, 16, 17, 18, 19, 20, 21, 22, 23, 24, 25, 26, 27, 28, 29, 30, 31, 32, 33, 34, 35, 36, 37, 38, 39, 40, 41, 42], [0, 1, 2, 3, 4, 5, 6, 7, 8, 9, 10, 11, 12, 13, 14, 15, 16, 17, 18, 19, 20, 21, 22, 23, 24, 25, 26, 27, 28, 29, 30, 31, 32, 33, 34, 35, 36, 37, 38, 39, 40, 41, 42, 43], [0, 1, 2, 3, 4, 5, 6, 7, 8, 9, 10, 11, 12, 13, 14, 15, 16, 17, 18, 19, 20, 21, 22, 23, 24, 25, 26, 27, 28, 29, 30, 31, 32, 33, 34, 35, 36, 37, 38, 39, 40, 41, 42, 43, 44], [0, 1, 2, 3, 4, 5, 6, 7, 8, 9, 10, 11, 12, 13, 14, 15, 16, 17, 18, 19, 20, 21, 22, 23, 24, 25, 26, 27, 28, 29, 30, 31, 32, 33, 34, 35, 36, 37, 38, 39, 40, 41, 42, 43, 44, 45], [0, 1, 2, 3, 4, 5, 6, 7, 8, 9, 10, 11, 12, 13, 14, 15, 16, 17, 18, 19, 20, 21, 22, 23, 24, 25, 26, 27, 28, 29, 30, 31, 32, 33, 34, 35, 36, 37, 38, 39, 40, 41, 42, 43, 44, 45, 46], [0, 1, 2, 3, 4, 5, 6, 7, 8, 9, 10, 11, 12, 13, 14, 15, 16, 17, 18, 19, 20, 21, 22, 23, 24, 25, 26, 27, 28, 29, 30, 31, 32, 33, 34, 35, 36, 37, 38, 39, 40, 41, 42, 43, 44, 45, 46], [0, 1, 2, 3, 4, 5, 6, 7, 8, 9, 10, 11, 12, 13, 14, 15, 16, 17, 18, 19, 20, 21, 22, 23, 24, 25, 26, 27, 28, 29, 30, 31, 32, 33, 34, 35, 36, 37, 38, 39, 40, 41, 42, 43, 44, 45, 46, 47, 48], [0, 1, 2, 3, 4, 5, 6, 7, 8, 9, 10, 11, 12, 13, 14, 15, 16, 17, 18, 19, 20, 21, 22, 23, 24, 25, 26, 27, 28, 29, 30, 31, 32, 33, 34, 35, 36, 37, 38, 39, 40, 41, 42, 43, 44, 45, 46], [0, 1, 2, 3, 4, 5, 6, 7, 8, 9, 10, 11, 12, 13, 14, 15, 16, 17, 18, 19, 20, 21, 22, 23, 24, 25, 26, 27, 28, 29, 30, 31, 32, 33, 34, 35, 36, 37, 38, 39, 40, 41, 42, 43, 44, 45, 46, 50], [0, 1, 2, 3, 4, 5, 6, 7, 8, 9, 10, 11, 12, 13, 14, 15, 16, 17, 18, 19, 20, 21, 22, 23, 24, 25, 26, 27, 28, 29, 30, 31, 32, 33, 34, 35, 36, 37, 38, 39, 40, 41, 42, 43, 44, 45, 46], [0, 1, 2, 3, 4, 5, 6, 7, 8, 9, 10, 11, 12, 13, 14, 15, 16, 17, 18, 19, 20, 21, 22, 23, 24, 25, 26, 27, 28, 29, 30, 31, 32, 33, 34, 35, 36, 37, 38, 39, 40, 41, 42, 43, 44, 45, 46, 52], [0, 1, 2, 3, 4, 5, 6, 7, 8, 9, 10, 11, 12, 13, 14, 15, 16, 17, 18, 19, 20, 21, 22, 23, 24, 25, 26, 27, 28, 29, 30, 31, 32, 33, 34, 35, 36, 37, 38, 39, 40, 41, 42, 43, 44, 45, 46, 47, 48, 49, 50, 51, 52, 53], [0, 1, 2, 3, 4, 5, 6, 7, 8, 9, 10, 11, 12, 13, 14, 15, 16, 17, 18, 19, 20, 21, 22, 23, 24, 25, 26, 27, 28, 29, 30, 31, 32, 33, 34, 35, 36, 37, 38, 39, 40, 41, 42, 43, 44, 45, 46, 47, 48, 49, 50, 51, 52, 53, 54]])
          (.cond (.tmp 73) (.seq (.reg [⟨(some 2), .assign (.const (.bool false)), none⟩])
            .ret)
           .skip))))
       (.reg [⟨(some 12), .move (.tmp 3), none⟩,
          ⟨(some 13), .binOp .add 3 (.tmp 12) (.const (.int .i64 1)) 3, none⟩,
          ⟨(some 3), .assign (.tmp 13), none⟩]))))))
  (.seq (.reg [⟨(some 2), .assign (.const (.bool true)), none⟩])
   .ret))))
theorem s45 : slimF Tryz.f45 = some (c45, [.t 2], 74) := by kernel_rfl
theorem o45 : okF [(93, g93), (95, g95), (96, g96)] Tryz.f45 = true := by kernel_rfl
noncomputable def g45 : Fsem := sem1 enExc.list (fun l => True) (fun n l => .bool (excsOk l))
@[go_sem] theorem g45_eq {n τ : Nat} {l : List Exc} : g45 n [.sl τ 4 (l.map (enExc.av τ))] = ⟨True, .bool (excsOk l)⟩ := sem1_eq  (E := enExc.list)
theorem p45 : Pure Tryz.prog 45 g45 := by
  refine sem1_pure fun τ l n h2 hpre => ?_
  have hT : Table Tryz.prog [(93, g93), (95, g95), (96, g96)] := (.cons p93 (.cons p95 (.cons p96 .nil)))
  have hn0 : n ≠ 0 := by omega
  refine SatP.of_body hT hm Tryz.func45 s45 o45 h2 (by simp) ?_
  simp only [excsOk]
  generalize hr : excL [] l = r
  simp (config := {contextual := true, maxSteps := 2000000, implicitDefEqProofs := false}) [c45, go_sem]
  intro hL
  refine ⟨fun h _ => by omega, fun hl16 => ?_⟩
  refine VW_listKE [] [] hT h2 hm l [0] (fun pre post (b : Unit) => []) (fun pre post (b : Unit) => [(3, .int .i64 pre.length)]) (fun pre post (b : Unit) => excL pre post = r) () ?_ ?_ ?_ ?_
  · exact hr
  · simp [SubE, SubR, go_sem]
  · rintro _ hR
    have hR' : true = r := hR
    simp (config := {contextual := true, maxSteps := 2000000, implicitDefEqProofs := false}) [go_sem, ← hR']
    intro _
    omega
  · rintro pre0 x rest _ hl hlen hR
    have hln : l.length = pre0.length + (rest.length + 1) := by rw [← hl]; simp
    have hn : nth (List.map (enExc.av τ) l) (pre0.length) = (enExc.av τ) x := by rw [← hl]; simp [go_sem]
    have hw : l.length ≤ maxLen → IntKind.i64.wrap ((pre0.length : Int) + 1) = (pre0.length : Int) + 1 := fun h => wrap_ok (by omega) (by simp only [maxLen] at h; omega)
    have h3 : (0 : Int) ≤ (pre0.length : Int) := by omega
    have h4 : (pre0.length : Int) < (l.length : Int) := by omega
    have h5 : ¬ (l.length : Int) ≤ (pre0.length : Int) := by omega
    have htk : List.take pre0.length (List.map (enExc.av τ) l) = List.map (enExc.av τ) pre0 := by rw [← hl]; simp
    have hpm : pre0.length ≤ l.length := by omega
    simp only [excL, excOk1] at hR
    rcases Nat.eq_zero_or_pos pre0.length with h0 | h0
    · have hz : ¬ (0 : Int) < (pre0.length : Int) := by omega
      have hz2 : ¬ 0 < pre0.length := by omega
      rw [prevE_nil h0] at hR
      simp (config := {contextual := true, maxSteps := 2000000, implicitDefEqProofs := false}) [go_sem, hn, hw, h3, h4, h5, htk, hpm, hz, hz2, cmpPg_pos, knownE_any, SubE, SubR, excOk1]
      grind
    · obtain ⟨j, hj⟩ : ∃ j, pre0.length = j + 1 := ⟨pre0.length - 1, by omega⟩
      obtain ⟨q, y, hq, hqj, hpv⟩ := prevE_last (g := x.pg) hj
      rw [hpv] at hR
      have hz : (0 : Int) < (pre0.length : Int) := by omega
      have hz2 : 0 < pre0.length := by omega
      have hw1 : IntKind.i64.wrap ((pre0.length : Int) - 1) = (j : Int) := by rw [show (pre0.length : Int) - 1 = (j : Int) by omega]; exact wrap_ok (by omega) (by simp only [maxLen] at hL; omega)
      have hj0 : (0 : Int) ≤ (j : Int) := by omega
      have hj1 : (j : Int) < (l.length : Int) := by omega
      have hny : nth (List.map (enExc.av τ) l) j = enExc.av τ y := by rw [← hl, hq, ← hqj]; simp [go_sem]
      simp (config := {contextual := true, maxSteps := 2000000, implicitDefEqProofs := false}) [go_sem, hn, hw, h3, h4, h5, htk, hpm, hz, hz2, hw1, hj0, hj1, hny, cmpPg_pos, knownE_any, SubE, SubR, excOk1]
      grind
end Go.Ve
namespace Go.Ve
open Go.Proofs Go.RowKit
set_option linter.unusedVariables false
set_option linter.unusedSimpArgs false
set_option maxRecDepth 10000
set_option maxHeartbeats 4000000
def goodN (t : Tree) (kind x : Int) : Prop := 0 ≤ devI t x ∧ (kind = 0 ∨ aboveF 5 t x kind ≠ 0)
theorem domB_iff {t : Tree} {kind x : Int} : domB t kind x = true ↔ goodN t kind x := by
  simp [domB, goodN]
def apI (t : Tree) (kind : Int) : List Int → List Int → Bool
  | _, [] => true
  | sn, x :: l => if x = -1 then apI t kind sn l else domB t kind x && !decide (domI t kind x ∈ sn) && apI t kind (ins sn (domI t kind x)) l
def apS (t : Tree) (kind : Int) (all : List Int) : Nat → List Int → Bool
  | _, [] => true
  | i, x :: l => (decide (x = -1) || (decide (0 ≤ devI t x) && !(decide (0 < kind) && decide (domS t kind x = 0)) && !confS t kind all i x)) && apS t kind all (i + 1) l
theorem confL_iff {d : Int → Int} {own a node : Int} : ∀ {l : List Int} {i : Nat}, confL d own a node i l = true ↔ ∃ j, ∃ h : j < l.length, ((i + j : Nat) : Int) ≠ a ∧ 0 ≤ l[j] ∧ (l[j] = node ∨ d l[j] = own)
  | [], i => by simp [confL]
  | o :: l, i => by
    have ih := confL_iff (d := d) (own := own) (a := a) (node := node) (l := l) (i := i + 1)
    have key : (∃ j, ∃ h : j < (o :: l).length, ((i + j : Nat) : Int) ≠ a ∧ 0 ≤ (o :: l)[j] ∧ ((o :: l)[j] = node ∨ d (o :: l)[j] = own)) ↔ (((i : Int) ≠ a ∧ 0 ≤ o ∧ (o = node ∨ d o = own)) ∨ ∃ j, ∃ h : j < l.length, ((i + 1 + j : Nat) : Int) ≠ a ∧ 0 ≤ l[j] ∧ (l[j] = node ∨ d l[j] = own)) := by
      constructor
      · rintro ⟨j, h, h1, h2, h3⟩
        cases j with
        | zero => exact .inl ⟨by simpa using h1, h2, h3⟩
        | succ j => exact .inr ⟨j, by simpa using h, by rw [show i + 1 + j = i + (j + 1) by omega]; exact h1, h2, h3⟩
      · rintro (⟨h1, h2, h3⟩ | ⟨j, h, h1, h2, h3⟩)
        · exact ⟨0, by simp, by simpa using h1, h2, h3⟩
        · exact ⟨j + 1, by simpa using h, by rw [show i + (j + 1) = i + 1 + j by omega]; exact h1, h2, h3⟩
    rw [key, ← ih]
    simp only [confL]
    split
    · rename_i hc
      constructor
      · exact .inr
      · rintro (⟨h1, h2, _⟩ | h)
        · rcases hc with hc | hc
          · exact absurd hc h1
          · omega
        · exact h
    · rename_i hc
      simp only [not_or] at hc
      simp only [Bool.or_eq_true, decide_eq_true_eq]
      constructor
      · rintro (h | h)
        · exact .inl ⟨hc.1, by omega, h⟩
        · exact .inr h
      · rintro (⟨_, _, h⟩ | h)
        · exact .inl h
        · exact .inr h
theorem apI_iff {t : Tree} {kind : Int} : ∀ {l sn : List Int}, apI t kind sn l = true ↔ (∀ x ∈ l, x ≠ -1 → goodN t kind x) ∧ l.Pairwise (fun x y => x ≠ -1 → y ≠ -1 → domS t kind x ≠ domS t kind y) ∧ ∀ x ∈ l, x ≠ -1 → domS t kind x ∉ sn
  | [], sn => by simp [apI]
  | x :: l, sn => by
    simp only [apI]
    by_cases hx : x = -1
    · rw [if_pos hx, apI_iff (l := l)]
      subst hx
      simp only [List.mem_cons, forall_eq_or_imp, List.pairwise_cons, ne_eq, not_true_eq_false, false_implies, true_and, implies_true]
    · rw [if_neg hx]
      simp only [Bool.and_eq_true, Bool.not_eq_true', decide_eq_false_iff_not, domB_iff]
      rw [apI_iff (l := l)]
      simp only [List.mem_cons, forall_eq_or_imp, List.pairwise_cons, mem_ins, not_or]
      constructor
      · rintro ⟨⟨h1, h2⟩, h3, h4, h5⟩
        rw [domI_eq h1.1] at h2 h5
        exact ⟨⟨fun _ => h1, h3⟩, ⟨fun y hy _ hy1 e => (h5 y hy hy1).2 e.symm, h4⟩, fun _ => h2, fun y hy hy1 => (h5 y hy hy1).1⟩
      · rintro ⟨⟨h1, h3⟩, ⟨h6, h4⟩, h2, h5⟩
        have h1 := h1 hx
        rw [domI_eq h1.1]
        exact ⟨⟨h1, h2 hx⟩, h3, h4, fun y hy hy1 => ⟨h5 y hy hy1, fun e => h6 y hy hx hy1 e.symm⟩⟩
theorem apS_iff {t : Tree} {kind : Int} (hk : 0 ≤ kind) {all : List Int} : ∀ {l : List Int} {i : Nat}, apS t kind all i l = true ↔ ∀ k, ∀ h : k < l.length, l[k] ≠ -1 → goodN t kind l[k] ∧ confS t kind all ((i + k : Nat) : Int) l[k] = false
  | [], i => by simp [apS]
  | x :: l, i => by
    have ih := apS_iff (t := t) hk (all := all) (l := l) (i := i + 1)
    simp only [apS, Bool.and_eq_true, ih, Bool.or_eq_true, decide_eq_true_eq, Bool.not_eq_true', Bool.and_eq_false_iff, decide_eq_false_iff_not]
    have hg : (0 ≤ devI t x ∧ (¬ 0 < kind ∨ ¬ domS t kind x = 0)) ↔ goodN t kind x := by
      unfold goodN domS
      by_cases h : kind = 0
      · simp [h]
      · have : 0 < kind := by omega
        simp [h, this]
    rw [hg]
    constructor
    · rintro ⟨h1, h2⟩ k hk' hne
      cases k with
      | zero =>
        rcases h1 with h1 | h1
        · exact absurd h1 hne
        · exact h1
      | succ k =>
        have := h2 k (by simpa using hk') hne
        rw [show i + 1 + k = i + (k + 1) by omega] at this
        exact this
    · intro h
      refine ⟨?_, fun k hk' hne => ?_⟩
      · by_cases hx : x = -1
        · exact .inl hx
        · exact .inr (h 0 (by simp) hx)
      · have := h (k + 1) (by simpa using hk') hne
        rw [show i + (k + 1) = i + 1 + k by omega] at this
        exact this
theorem ap_eq {t : Tree} (ht : treeOk t = true) {kind : Int} (hk : 0 ≤ kind) {l : List Int} : apI t kind [] l = apS t kind l 0 l := by
  rw [Bool.eq_iff_iff, apI_iff, apS_iff hk]
  have hpos : ∀ x, goodN t kind x → 0 ≤ x := fun x h => by
    rcases Int.lt_or_le x 0 with hn | hn
    · exact absurd h.1 (devI_neg ht hn)
    · exact hn
  constructor
  · rintro ⟨h1, h2, _⟩ k hk' hne
    refine ⟨h1 _ (List.getElem_mem hk') hne, ?_⟩
    rw [Bool.eq_false_iff, ne_eq, confS, confL_iff]
    rintro ⟨j, hj, hja, hj0, hjd⟩
    have hd : domS t kind l[j] = domS t kind l[k] := by
      rcases hjd with e | e
      · rw [e]
      · exact e
    rw [List.pairwise_iff_getElem] at h2
    have hjn : l[j] ≠ -1 := by omega
    rcases Nat.lt_trichotomy j k with h | h | h
    · exact h2 j k hj hk' h hjn hne hd
    · omega
    · exact h2 k j hk' hj h hne hjn hd.symm
  · intro h
    refine ⟨fun x hx hne => ?_, ?_, by simp⟩
    · obtain ⟨k, hk', rfl⟩ := List.mem_iff_getElem.1 hx
      exact (h k hk' hne).1
    · rw [List.pairwise_iff_getElem]
      intro i j hi hj hij hni hnj e
      have h1 := (h i hi hni).2
      rw [Bool.eq_false_iff, ne_eq, confS, confL_iff] at h1
      exact h1 ⟨j, hj, by omega, hpos _ (h j hj hnj).1, .inr e.symm⟩
end Go.Ve
namespace Go.Ve
open Go.Proofs Go.RowKit
set_option linter.unusedVariables false
set_option linter.unusedSimpArgs false
set_option maxRecDepth 10000
set_option maxHeartbeats 4000000
def c53 : SCode := (.seq (.reg [⟨(some 3), .box 39 (.tmp 0), none⟩,
   ⟨(some 6), .assign (.const (.bool false)), none⟩])
(.seq (.seq (.reg [⟨(some 12), .load 39 (.tmp 3), none⟩,
     ⟨(some 13), .call ⟨(.value (.func 105)), #[(.tmp 12)], #[39]⟩, none⟩,
     ⟨(some 14), .unOp .not 4 (.tmp 13), none⟩,
     ⟨(some 15), .move (.tmp 14), none⟩,
     ⟨(some 16), .move (.tmp 1), (some (15, false))⟩,
     ⟨(some 17), .call ⟨(.value (.func 82)), #[(.tmp 16), (.const (.int .i64 0)), (.const (.int .i64 2))], #[2, 2, 2]⟩, (some (15, false))⟩,
     ⟨(some 18), .unOp .not 4 (.tmp 17), (some (15, false))⟩,
     ⟨(some 19), .pick (.tmp 15) (.const (.bool true)) (.tmp 18), none⟩,
     ⟨(some 20), .move (.tmp 19), none⟩,
     ⟨(some 21), .move (.tmp 2), (some (20, false))⟩,
     ⟨(some 22), .call ⟨(.builtin .len), #[(.tmp 21)], #[28]⟩, (some (20, false))⟩,
     ⟨(some 23), .binOp .gtr 3 (.tmp 22) (.const (.int .i64 7)) 3, (some (20, false))⟩,
     ⟨(some 24), .pick (.tmp 20) (.const (.bool true)) (.tmp 23), none⟩])
  (.cond (.tmp 24) (.seq (.reg [⟨(some 6), .assign (.const (.bool false)), none⟩])
    .ret)
   .skip))
 (.seq (.reg [⟨(some 25), .makeMap 142 none, none⟩,
     ⟨(some 7), .assign (.tmp 25), none⟩])
  (.seq (.seq (.reg [⟨(some 26), .move (.tmp 2), none⟩,
       ⟨(some 27), .call ⟨(.builtin .len), #[(.tmp 26)], #[28]⟩, none⟩,
       ⟨(some 28), .move (.const (.int .i64 0)), none⟩])
    (.block 0 (.loop (.seq (.reg [⟨(some 29), .binOp .lss 3 (.tmp 28) (.tmp 27) 3, none⟩])
       (.seq (.cond (.tmp 29) .skip
         (.exit 0))
        (.seq (.block 1 (.seq (.reg [⟨(some 30), .indexAddr 28 (.tmp 26) (.tmp 28), none⟩,
              ⟨(some 31), .load 2 (.tmp 30), none⟩,
              ⟨(some 9), .assign (.tmp 31), none⟩])
           (.seq (.seq (.reg [⟨(some 32), .move (.tmp 9), none⟩,
                ⟨(some 33), .binOp .eql 2 (.tmp 32) (.const (.int .i64 (-1))) 2, none⟩])
             (.cond (.tmp 33) (.exit 1)
              .skip))
            (.seq (.reg [⟨(some 35), .load 39 (.tmp 3), none⟩,
                ⟨(some 36), .move (.tmp 1), none⟩,
                ⟨(some 37), .move (.tmp 9), none⟩,
                ⟨(some 38), .call ⟨(.value (.func 111)), #[(.tmp 35), (.tmp 36), (.tmp 37)], #[39, 2, 2]⟩, none⟩,
                ⟨(some 34), .move (.tmp 38), none⟩,
                ⟨(some 39), .extract (.tmp 34) 0, none⟩,
                ⟨(some 40), .extract (.tmp 34) 1, none⟩,
                ⟨(some 10), .assign (.tmp 39), none⟩,
                ⟨(some 11), .assign (.tmp 40), none⟩])
             (.seq (.seq (.reg [⟨(some 41), .move (.tmp 11), none⟩,
                  ⟨(some 42), .unOp .not 4 (.tmp 41), none⟩,
                  ⟨(some 43), .move (.tmp 42), none⟩,
                  ⟨(some 44), .move (.tmp 7), (some (43, false))⟩,
                  ⟨(some 45), .move (.tmp 10), (some (43, false))⟩,
                  ⟨(some 46), .lookup 142 (.tmp 44) (.tmp 45) false, (some (43, false))⟩,
                  ⟨(some 47), .pick (.tmp 43) (.const (.bool true)) (.tmp 46), none⟩])
               (.cond (.tmp 47) (.seq (.reg [⟨(some 6), .assign (.const (.bool false)), none⟩])
                 .ret)
                .skip))
              (.reg [⟨(some 48), .move (.tmp 7), none⟩,
                 ⟨(some 49), .move (.tmp 10), none⟩,
                 ⟨none, .mapUpdate 142 (.tmp 48) (.tmp 49) (.const (.bool true)), none⟩]))))))
         (.reg [⟨(some 50), .binOp .add 3 (.tmp 28) (.const (.int .i64 1)) 3, none⟩,
            ⟨(some 28), .move (.tmp 50), none⟩])))))))
   (.seq (.reg [⟨(some 6), .assign (.const (.bool true)), none⟩])
    .ret)))))
theorem s53 : slimF Tryz.f53 = some (c53, [.t 6], 51) := by kernel_rfl
theorem o53 : okF [(105, g105), (82, g82), (111, g111)] Tryz.f53 = true := by kernel_rfl
noncomputable def g53 : Fsem := semT3 enTree (En.int .i64) (En.int .i64).list (fun τ t kind l => τ ≠ 0) (fun n τ t kind l => .bool (treeOk t && btw kind 0 2 && decide (l.length ≤ 7) && apI t kind [] l))
@[go_sem] theorem g53_eq {n τ τ'' : Nat} {t : Tree} {kind : Int} {l : List Int} : g53 n [.agg [.sl τ 2 (t.devices.map (enDev.av τ)), .sl τ 3 (t.buckets.map (enBkt.av τ))], .int .i64 kind, .sl τ'' 1 (l.map (AV.int .i64))] = ⟨τ ≠ 0, .bool (treeOk t && btw kind 0 2 && decide (l.length ≤ 7) && apI t kind [] l)⟩ := semT3_eq (τ' := 0) (E := enTree) (F := (En.int .i64)) (G := (En.int .i64).list) (seen_Tree)
theorem p53 : Pure Tryz.prog 53 g53 := by
  refine semT3_pure fun τ τ' τ'' t kind l n h2 hpre => ?_
  have hT : Table Tryz.prog [(105, g105), (82, g82), (111, g111)] := (.cons p105 (.cons p82 (.cons p111 .nil)))
  have hn0 : n ≠ 0 := by omega
  refine SatP.of_body hT hm Tryz.func53 s53 o53 h2 (by simp) ?_
  have hp : τ ≠ 0 := hpre
  cases ht : treeOk t
  · simp (config := {contextual := true, maxSteps := 2000000, implicitDefEqProofs := false}) [c53, go_sem, hp, ht]
  · cases hb : btw kind 0 2
    · simp (config := {contextual := true, maxSteps := 2000000, implicitDefEqProofs := false}) [c53, go_sem, hp, ht, hb]
    · by_cases hl7 : l.length ≤ 7
      · have hl7i : ¬ (7 : Int) < (l.length : Int) := by omega
        generalize hr : apI t kind [] l = r
        simp (config := {contextual := true, maxSteps := 2000000, implicitDefEqProofs := false}) [c53, go_sem, hp, ht, hb, hl7, hl7i]
        intro hL
        refine VW_listKE [] [3, 7] hT h2 hm l [1, 3, 7, 26, 27] (fun pre post (sn : List Int) => [.box 39 [.sl τ 2 (t.devices.map (enDev.av τ)), .sl τ 3 (t.buckets.map (enBkt.av τ))], .mp (kvs sn)]) (fun pre post (sn : List Int) => [(28, .int .i64 pre.length)]) (fun pre post (sn : List Int) => apI t kind sn post = r) [] ?_ ?_ ?_ ?_
        · exact hr
        · simp [SubE, SubR, go_sem]
        · rintro sn hR
          have hR' : true = r := hR
          simp (config := {contextual := true, maxSteps := 2000000, implicitDefEqProofs := false}) [go_sem, ← hR']
        · rintro pre x post sn hl hlen hR
          have hln : l.length = pre.length + (post.length + 1) := by rw [← hl]; simp
          have hn : nth (List.map (AV.int .i64) l) (pre.length) = (AV.int .i64) x := by rw [← hl]; simp [go_sem]
          have hw : l.length ≤ maxLen → IntKind.i64.wrap ((pre.length : Int) + 1) = (pre.length : Int) + 1 := fun h => wrap_ok (by omega) (by simp only [maxLen] at h; omega)
          have h3 : (0 : Int) ≤ (pre.length : Int) := by omega
          have h4 : (pre.length : Int) < (l.length : Int) := by omega
          have h5 : ¬ (l.length : Int) ≤ (pre.length : Int) := by omega
          simp only [apI] at hR
          by_cases hx : x = -1
          · rw [if_pos hx] at hR
            simp (config := {contextual := true, maxSteps := 2000000, implicitDefEqProofs := false}) [go_sem, hn, hw, hL, h3, h4, h5, hx]
            refine ⟨sn, hR, ?_⟩
            simp only [subE_go, subR_go, anOf_nil, anOf_cons, tmOk_nil, tmOk_cons]
            simp (config := {contextual := true, maxSteps := 2000000, implicitDefEqProofs := false}) [go_sem, subE_go, subR_go, anOf_nil, anOf_cons, tmOk_nil, tmOk_cons]
          · rw [if_neg hx] at hR
            cases hd : domB t kind x
            · rw [hd] at hR
              simp (config := {contextual := true, maxSteps := 2000000, implicitDefEqProofs := false}) [go_sem, hn, hw, hL, h3, h4, h5, hx, hd, ht]
              simpa using hR
            · rw [hd] at hR
              by_cases hm' : domI t kind x ∈ sn
              · simp (config := {contextual := true, maxSteps := 2000000, implicitDefEqProofs := false}) [go_sem, hn, hw, hL, h3, h4, h5, hx, hd, ht, hm', lkV]
                simpa [hm'] using hR
              · simp (config := {contextual := true, maxSteps := 2000000, implicitDefEqProofs := false}) [go_sem, hn, hw, hL, h3, h4, h5, hx, hd, ht, hm', lkV]
                refine ⟨ins sn (domI t kind x), by simpa [hm'] using hR, ?_⟩
                simp only [subE_go, subR_go, anOf_nil, anOf_cons, tmOk_nil, tmOk_cons]
                simp (config := {contextual := true, maxSteps := 2000000, implicitDefEqProofs := false}) [go_sem, subE_go, subR_go, anOf_nil, anOf_cons, tmOk_nil, tmOk_cons]
      · have hl7i : (7 : Int) < (l.length : Int) := by omega
        simp (config := {contextual := true, maxSteps := 2000000, implicitDefEqProofs := false}) [c53, go_sem, hp, ht, hb, hl7, hl7i]
def c46 : SCode := (.seq (.reg [⟨(some 3), .box 39 (.tmp 0), none⟩,
   ⟨(some 6), .assign (.const (.bool false)), none⟩])
(.seq (.seq (.reg [⟨(some 7), .assign (.const (.int .i64 0)), none⟩])
  (.block 0 (.loop (.seq (.seq (.reg [⟨(some 8), .move (.tmp 7), none⟩,
         ⟨(some 9), .move (.tmp 2), none⟩,
         ⟨(some 10), .call ⟨(.builtin .len), #[(.tmp 9)], #[28]⟩, none⟩,
         ⟨(some 11), .binOp .lss 3 (.tmp 8) (.tmp 10) 3, none⟩])
      (.cond (.tmp 11) .skip
       (.exit 0)))
     (.seq (.block 1 (.seq (.seq (.reg [⟨(some 14), .move (.tmp 2), none⟩,
            ⟨(some 15), .move (.tmp 7), none⟩,
            ⟨(some 16), .indexAddr 28 (.tmp 14) (.tmp 15), none⟩,
            ⟨(some 17), .load 2 (.tmp 16), none⟩,
            ⟨(some 18), .binOp .eql 2 (.tmp 17) (.const (.int .i64 (-1))) 2, none⟩])
         (.cond (.tmp 18) (.exit 1)
          .skip))
        (.seq (.draw [⟨(some 19), .load 39 (.tmp 3), none⟩,
            ⟨(some 20), .move (.tmp 2), none⟩,
            ⟨(some 21), .move (.tmp 7), none⟩,
            ⟨(some 22), .indexAddr 28 (.tmp 20) (.tmp 21), none⟩,
            ⟨(some 23), .load 2 (.tmp 22), none⟩,
            ⟨(some 24), .call ⟨(.value (.func 97)), #[(.tmp 19), (.tmp 23)], #[39, 2]⟩, none⟩,
            ⟨(some 25), .binOp .lss 3 (.tmp 24) (.const (.int .i64 0)) 3, none⟩,
            ⟨(some 26), .move (.tmp 25), none⟩,
            ⟨(some 27), .move (.tmp 1), (some (26, false))⟩,
            ⟨(some 28), .binOp .gtr 2 (.tmp 27) (.const (.int .i64 0)) 2, (some (26, false))⟩,
            ⟨(some 29), .move (.tmp 28), (some (26, false))⟩,
            ⟨(some 30), .load 39 (.tmp 3), (some (29, true))⟩,
            ⟨(some 31), .move (.tmp 1), (some (29, true))⟩,
            ⟨(some 32), .move (.tmp 2), (some (29, true))⟩,
            ⟨(some 33), .move (.tmp 7), (some (29, true))⟩,
            ⟨(some 34), .indexAddr 28 (.tmp 32) (.tmp 33), (some (29, true))⟩,
            ⟨(some 35), .load 2 (.tmp 34), (some (29, true))⟩,
            ⟨(some 36), .call ⟨(.value (.func 98)), #[(.tmp 30), (.tmp 31), (.tmp 35)], #[39, 2, 2]⟩, (some (29, true))⟩,
            ⟨(some 37), .binOp .eql 2 (.tmp 36) (.const (.int .i64 0)) 2, (some (29, true))⟩,
            ⟨(some 38), .pick (.tmp 29) (.tmp 37) (.const (.bool false)), (some (26, false))⟩,
            ⟨(some 39), .pick (.tmp 26) (.const (.bool true)) (.tmp 38), none⟩,
            ⟨(some 40), .move (.tmp 39), none⟩,
            ⟨(some 41), .load 39 (.tmp 3), (some (40, false))⟩,
            ⟨(some 42), .move (.tmp 1), (some (40, false))⟩,
            ⟨(some 43), .move (.tmp 2), (some (40, false))⟩,
            ⟨(some 44), .move (.tmp 7), (some (40, false))⟩,
            ⟨(some 45), .move (.tmp 2), (some (40, false))⟩,
            ⟨(some 46), .move (.tmp 7), (some (40, false))⟩,
            ⟨(some 47), .indexAddr 28 (.tmp 45) (.tmp 46), (some (40, false))⟩,
            ⟨(some 48), .load 2 (.tmp 47), (some (40, false))⟩,
            ⟨(some 49), .call ⟨(.value (.func 99)), #[(.tmp 41), (.tmp 42), (.tmp 43), (.tmp 44), (.tmp 48)], #[39, 2, 28, 3, 2]⟩, (some (40, false))⟩,
            ⟨(some 50), .unOp .not 4 (.tmp 49), (some (40, false))⟩,
            ⟨(some 51), .pick (.tmp 40) (.const (.bool true)) (.tmp 50), none⟩] [[], [], [], [1, 2], [1, 2, 3], [0, 1, 2, 3, 4], [0, 1, 2, 3, 4, 5], [0, 1, 2, 3, 4, 5, 6], [0, 1, 2, 3, 4, 5, 6, 7], [0, 1, 2, 3, 4, 5, 6, 7, 8], [0, 1, 2, 3, 4, 5, 6, 7, 8, 9], [0, 1, 2, 3, 4, 5, 6, 7, 8, 9, 10], [0, 1, 2, 3, 4, 5, 6, 7, 8, 9, 10], [0, 1, 2, 3, 4, 5, 6, 7, 8, 9, 10], [0, 1, 2, 3, 4, 5, 6, 7, 8, 9, 10], [0, 1, 2, 3, 4, 5, 6, 7, 8, 9, 10, 13, 14], [0, 1, 2, 3, 4, 5, 6, 7, 8, 9, 10, 13, 14, 15], [0, 1, 2, 3, 4, 5, 6, 7, 8, 9, 10, 11, 12, 13, 14, 15, 16], [0, 1, 2, 3, 4, 5, 6, 7, 8, 9, 10, 11, 12, 13, 14, 15, 16, 17], [0, 1, 2, 3, 4, 5, 6, 7, 8, 9, 10, 11, 12, 13, 14, 15, 16, 17, 18], [0, 1, 2, 3, 4, 5, 6, 7, 8, 9, 10, 11, 12, 13, 14, 15, 16, 17, 18, 19], [0, 1, 2, 3, 4, 5, 6, 7, 8, 9, 10, 11, 12, 13, 14, 15, 16, 17, 18, 19, 20], [0, 1, 2, 3, 4, 5, 6, 7, 8, 9, 10, 11, 12, 13, 14, 15, 16, 17, 18, 19, 20, 21], [0, 1, 2, 3, 4, 5, 6, 7, 8, 9, 10, 11, 12, 13, 14, 15, 16, 17, 18, 19, 20, 21], [0, 1, 2, 3, 4, 5, 6, 7, 8, 9, 10, 11, 12, 13, 14, 15, 16, 17, 18, 19, 20, 21], [0, 1, 2, 3, 4, 5, 6, 7, 8, 9, 10, 11, 12, 13, 14, 15, 16, 17, 18, 19, 20, 21], [0, 1, 2, 3, 4, 5, 6, 7, 8, 9, 10, 11, 12, 13, 14, 15, 16, 17, 18, 19, 20, 21], [0, 1, 2, 3, 4, 5, 6, 7, 8, 9, 10, 11, 12, 13, 14, 15, 16, 17, 18, 19, 20, 21], [0, 1, 2, 3, 4, 5, 6, 7, 8, 9, 10, 11, 12, 13, 14, 15, 16, 17, 18, 19, 20, 21, 26, 27], [0, 1, 2, 3, 4, 5, 6, 7, 8, 9, 10, 11, 12, 13, 14, 15, 16, 17, 18, 19, 20, 21, 26, 27, 28], [0, 1, 2, 3, 4, 5, 6, 7, 8, 9, 10, 11, 12, 13, 14, 15, 16, 17, 18, 19, 20, 21, 22, 23, 24, 25, 26, 27, 28, 29], [0, 1, 2, 3, 4, 5, 6, 7, 8, 9, 10, 11, 12, 13, 14, 15, 16, 17, 18, 19, 20, 21, 22, 23, 24, 25, 26, 27, 28, 29, 30], [0, 1, 2, 3, 4, 5, 6, 7, 8, 9, 10, 11, 12, 13, 14, 15, 16, 17, 18, 19, 20, 21, 22, 23, 24, 25, 26, 27, 28, 29, 30, 31]])
         (.cond (.tmp 51) (.seq (.reg [⟨(some 6), .assign (.const (.bool false)), none⟩])
           .ret)
          .skip))))
      (.reg [⟨(some 12), .move (.tmp 7), none⟩,
         ⟨(some 13), .binOp .add 3 (.tmp 12) (.const (.int .i64 1)) 3, none⟩,
         ⟨(some 7), .assign (.tmp 13), none⟩]))))))
 (.seq (.reg [⟨(some 6), .assign (.const (.bool true)), none⟩])
  .ret)))
theorem s46 : slimF Tryz.f46 = some (c46, [.t 6], 52) := by kernel_rfl
theorem o46 : okF [(97, g97), (98, g98), (99, g99)] Tryz.f46 = true := by kernel_rfl
noncomputable def g46 : Fsem := semT3 enTree (En.int .i64) (En.int .i64).list (fun τ t kind l => treeOk t = true) (fun n τ t kind l => .bool (apS t kind l 0 l))
@[go_sem] theorem g46_eq {n τ τ'' : Nat} {t : Tree} {kind : Int} {l : List Int} : g46 n [.agg [.sl τ 2 (t.devices.map (enDev.av τ)), .sl τ 3 (t.buckets.map (enBkt.av τ))], .int .i64 kind, .sl τ'' 1 (l.map (AV.int .i64))] = ⟨treeOk t = true, .bool (apS t kind l 0 l)⟩ := semT3_eq (τ' := 0) (E := enTree) (F := (En.int .i64)) (G := (En.int .i64).list) (seen_Tree)
theorem p46 : Pure Tryz.prog 46 g46 := by
  refine semT3_pure fun τ τ' τ'' t kind l n h2 hpre => ?_
  have hT : Table Tryz.prog [(97, g97), (98, g98), (99, g99)] := (.cons p97 (.cons p98 (.cons p99 .nil)))
  have hn0 : n ≠ 0 := by omega
  refine SatP.of_body hT hm Tryz.func46 s46 o46 h2 (by simp) ?_
  have ht : treeOk t = true := hpre
  generalize hr : apS t kind l 0 l = r
  simp (config := {contextual := true, maxSteps := 2000000, implicitDefEqProofs := false}) [c46, go_sem, ht]
  refine VW_listK hT h2 hm l [1, 2, 3] (fun pre post (b : Unit) => [(7, .int .i64 pre.length)]) (fun pre post (b : Unit) => apS t kind l pre.length post = r) () ?_ ?_ ?_ ?_
  · exact hr
  · simp [SubI, go_sem]
  · rintro _ hR
    have hR' : true = r := hR
    simp (config := {contextual := true, maxSteps := 2000000, implicitDefEqProofs := false}) [go_sem, ← hR']
  · rintro pre x post _ hl hlen hR
    have hln : l.length = pre.length + (post.length + 1) := by rw [← hl]; simp
    have hn : nth (List.map (AV.int .i64) l) (pre.length) = (AV.int .i64) x := by rw [← hl]; simp [go_sem]
    have hw : l.length ≤ maxLen → IntKind.i64.wrap ((pre.length : Int) + 1) = (pre.length : Int) + 1 := fun h => wrap_ok (by omega) (by simp only [maxLen] at h; omega)
    have h3 : (0 : Int) ≤ (pre.length : Int) := by omega
    have h4 : (pre.length : Int) < (l.length : Int) := by omega
    have h5 : ¬ (l.length : Int) ≤ (pre.length : Int) := by omega
    simp only [apS] at hR
    by_cases hx : x = -1
    · simp (config := {contextual := true, maxSteps := 2000000, implicitDefEqProofs := false}) [go_sem, hn, hw, h3, h4, h5, hx, ht, SubI]
      simp [hx] at hR
      exact fun _ => hR
    · by_cases hd : 0 ≤ devI t x
      · have hd' : ¬ devI t x < 0 := by omega
        simp (config := {contextual := true, maxSteps := 2000000, implicitDefEqProofs := false}) [go_sem, hn, hw, h3, h4, h5, hx, hd, hd', ht, SubI]
        simp [hx, hd] at hR
        grind
      · have hd' : devI t x < 0 := by omega
        simp (config := {contextual := true, maxSteps := 2000000, implicitDefEqProofs := false}) [go_sem, hn, hw, h3, h4, h5, hx, hd, hd', ht, SubI]
        simp [hx, hd] at hR
        grind
end Go.Ve
namespace Go.Ve
open Go.Proofs Go.RowKit
set_option linter.unusedVariables false
set_option linter.unusedSimpArgs false
set_option maxRecDepth 10000
set_option maxHeartbeats 4000000
theorem wt_dev {t : Tree} (ht : treeOk t = true) {n : Int} (h : 0 ≤ devI t n) : wt t n = devW t n ∧ kindOf t n = 0 := by
  have hb : bktO t n = none := by
    cases hb : bktO t n with
    | none => rfl
    | some b => exact absurd h (devI_neg ht (kind_some ht hb).2.2.2.2.2)
  refine ⟨?_, (kind_dev ht).2 h⟩
  unfold wt
  simp only [underF, hb, sumW]
  omega
def mayR (t : Tree) (r : Rule) (p : List Int) (a node : Int) (out : List Int) : Bool := decide (0 ≤ devI t node) && has (underF 5 t r.root) node && !decide (devW t node = 0) && !has out node && domB t r.kind node && !confS t r.kind p a node
def atE (e : Exc) (p : List Int) : Int := idx (fun y => decide (e.from_ = y)) p
def exStep (t : Tree) (r : Rule) (g : Pg) (out : List Int) (p : List Int) (e : Exc) : List Int :=
  if e.pg.pool = g.pool ∧ e.pg.no = g.no ∧ 0 ≤ atE e p ∧ mayR t r p (atE e p) e.to_ out = true then p.set (atE e p).toNat e.to_ else p
def exL (t : Tree) (r : Rule) (g : Pg) (out p : List Int) (l : List Exc) : List Int := l.foldl (exStep t r g out) p
theorem exStep_len {t : Tree} {r : Rule} {g : Pg} {out p : List Int} {e : Exc} : (exStep t r g out p e).length = p.length := by
  unfold exStep
  split <;> simp
theorem exL_len {t : Tree} {r : Rule} {g : Pg} {out : List Int} : ∀ {l : List Exc} {p : List Int}, (exL t r g out p l).length = p.length
  | [], p => rfl
  | e :: l, p => by
    show (exL t r g out (exStep t r g out p e) l).length = _
    rw [exL_len, exStep_len]
theorem exL_one {t : Tree} {r : Rule} {g : Pg} {out p : List Int} {l : List Exc} {e : Exc} : exL t r g out p (l ++ [e]) = exStep t r g out (exL t r g out p l) e := by simp [exL]
theorem exStep_dev {t : Tree} {r : Rule} {g : Pg} {out p : List Int} {e : Exc} (h : ∀ o ∈ p, 0 ≤ o → 0 ≤ devI t o) : ∀ o ∈ exStep t r g out p e, 0 ≤ o → 0 ≤ devI t o := by
  unfold exStep
  split
  · rename_i hc
    intro o ho h0
    rcases List.mem_or_eq_of_mem_set ho with ho | rfl
    · exact h o ho h0
    · have := hc.2.2.2
      simp only [mayR, Bool.and_eq_true, decide_eq_true_eq] at this
      exact this.1.1.1.1.1
  · exact h
theorem exL_dev {t : Tree} {r : Rule} {g : Pg} {out : List Int} : ∀ {l : List Exc} {p : List Int}, (∀ o ∈ p, 0 ≤ o → 0 ≤ devI t o) → ∀ o ∈ exL t r g out p l, 0 ≤ o → 0 ≤ devI t o
  | [], p, h => h
  | e :: l, p, h => exL_dev (l := l) (exStep_dev h)
theorem atE_lt {e : Exc} {p : List Int} (h : 0 ≤ atE e p) : ∃ a : Nat, atE e p = a ∧ a < p.length := by
  unfold atE at h ⊢
  rcases idx_spec (fun y => decide (e.from_ = y)) p with ⟨h1, _⟩ | ⟨a, x, b, hl, h2, h3, _⟩
  · omega
  · exact ⟨a.length, h3, by rw [hl]; simp⟩
def xcR (t : Tree) (r : Rule) (p : List Int) (l : List Exc) : Int := if (treeOk t && ruleOk t r && excsOk l) = true then (if (decide (p.length ≤ 7) && apI t r.kind [] p) = true then 0 else 2) else 1
def xpR (t : Tree) (r : Rule) (p : List Int) (g : Pg) (l : List Exc) : List Int := if xcR t r p l = 0 then exL t r g [] p l else []
def c114 : SCode := (.seq (.reg [⟨(some 6), .box 39 (.tmp 0), none⟩,
   ⟨(some 7), .box 41 (.tmp 1), none⟩,
   ⟨(some 12), .assign (.const (.bool false)), none⟩])
(.seq (.seq (.reg [⟨(some 15), .load 39 (.tmp 6), none⟩,
     ⟨(some 16), .move (.tmp 4), none⟩,
     ⟨(some 17), .call ⟨(.value (.func 163)), #[(.tmp 15), (.tmp 16)], #[39, 2]⟩, none⟩,
     ⟨(some 18), .binOp .lss 3 (.tmp 17) (.const (.int .i64 0)) 3, none⟩,
     ⟨(some 19), .move (.tmp 18), none⟩,
     ⟨(some 20), .load 39 (.tmp 6), (some (19, false))⟩,
     ⟨(some 21), .fieldAddr 41 (.tmp 7) 1, (some (19, false))⟩,
     ⟨(some 22), .load 2 (.tmp 21), (some (19, false))⟩,
     ⟨(some 23), .call ⟨(.value (.func 165)), #[(.tmp 20), (.tmp 22)], #[39, 2]⟩, (some (19, false))⟩,
     ⟨(some 24), .move (.tmp 4), (some (19, false))⟩,
     ⟨(some 25), .call ⟨(.value (.func 83)), #[(.tmp 23), (.tmp 24)], #[28, 2]⟩, (some (19, false))⟩,
     ⟨(some 26), .unOp .not 4 (.tmp 25), (some (19, false))⟩,
     ⟨(some 27), .pick (.tmp 19) (.const (.bool true)) (.tmp 26), none⟩,
     ⟨(some 28), .move (.tmp 27), none⟩,
     ⟨(some 29), .load 39 (.tmp 6), (some (28, false))⟩,
     ⟨(some 30), .move (.tmp 4), (some (28, false))⟩,
     ⟨(some 31), .call ⟨(.value (.func 166)), #[(.tmp 29), (.tmp 30)], #[39, 2]⟩, (some (28, false))⟩,
     ⟨(some 32), .binOp .eql 2 (.tmp 31) (.const (.int .i64 0)) 2, (some (28, false))⟩,
     ⟨(some 33), .pick (.tmp 28) (.const (.bool true)) (.tmp 32), none⟩,
     ⟨(some 34), .move (.tmp 33), none⟩,
     ⟨(some 35), .move (.tmp 5), (some (34, false))⟩,
     ⟨(some 36), .move (.tmp 4), (some (34, false))⟩,
     ⟨(some 37), .call ⟨(.value (.func 83)), #[(.tmp 35), (.tmp 36)], #[28, 2]⟩, (some (34, false))⟩,
     ⟨(some 38), .pick (.tmp 34) (.const (.bool true)) (.tmp 37), none⟩])
  (.cond (.tmp 38) (.seq (.reg [⟨(some 12), .assign (.const (.bool false)), none⟩])
    .ret)
   .skip))
 (.seq (.reg [⟨(some 40), .load 39 (.tmp 6), none⟩,
     ⟨(some 41), .fieldAddr 41 (.tmp 7) 2, none⟩,
     ⟨(some 42), .load 2 (.tmp 41), none⟩,
     ⟨(some 43), .move (.tmp 4), none⟩,
     ⟨(some 44), .call ⟨(.value (.func 111)), #[(.tmp 40), (.tmp 42), (.tmp 43)], #[39, 2, 2]⟩, none⟩,
     ⟨(some 39), .move (.tmp 44), none⟩,
     ⟨(some 45), .extract (.tmp 39) 0, none⟩,
     ⟨(some 46), .extract (.tmp 39) 1, none⟩,
     ⟨(some 13), .assign (.tmp 45), none⟩,
     ⟨(some 14), .assign (.tmp 46), none⟩])
  (.seq (.reg [⟨(some 47), .move (.tmp 14), none⟩,
      ⟨(some 48), .move (.tmp 47), none⟩,
      ⟨(some 49), .load 39 (.tmp 6), (some (48, true))⟩,
      ⟨(some 50), .fieldAddr 41 (.tmp 7) 2, (some (48, true))⟩,
      ⟨(some 51), .load 2 (.tmp 50), (some (48, true))⟩,
      ⟨(some 52), .move (.tmp 2), (some (48, true))⟩,
      ⟨(some 53), .move (.tmp 3), (some (48, true))⟩,
      ⟨(some 54), .move (.tmp 4), (some (48, true))⟩,
      ⟨(some 55), .call ⟨(.value (.func 167)), #[(.tmp 49), (.tmp 51), (.tmp 52), (.tmp 53), (.tmp 54)], #[39, 2, 28, 2, 2]⟩, (some (48, true))⟩,
      ⟨(some 56), .unOp .not 4 (.tmp 55), (some (48, true))⟩,
      ⟨(some 57), .pick (.tmp 48) (.tmp 56) (.const (.bool false)), none⟩,
      ⟨(some 12), .assign (.tmp 57), none⟩])
   .ret))))
theorem s114 : slimF Tryz.f114 = some (c114, [.t 12], 58) := by kernel_rfl
theorem o114 : okF [(163, g163), (165, g165), (83, g83), (166, g166), (111, g111), (167, g167)] Tryz.f114 = true := by kernel_rfl
noncomputable def g114 : Fsem := semT6 enTree enRule (En.int .i64).list (En.int .i64) (En.int .i64) (En.int .i64).list (fun τ t r places a node out => τ ≠ 0 ∧ treeOk t = true ∧ ruleOk t r = true ∧ (∀ o ∈ places, 0 ≤ o → 0 ≤ devI t o)) (fun n τ t r places a node out => .bool (mayR t r places a node out))
@[go_sem] theorem g114_eq {n τ τ'' τ5 : Nat} {t : Tree} {r : Rule} {places : List Int} {a : Int} {node : Int} {out : List Int} : g114 n [.agg [.sl τ 2 (t.devices.map (enDev.av τ)), .sl τ 3 (t.buckets.map (enBkt.av τ))], .agg [.int .i64 r.id, .int .i64 r.root, .int .i64 r.kind, .bool r.indep], .sl τ'' 1 (places.map (AV.int .i64)), .int .i64 a, .int .i64 node, .sl τ5 1 (out.map (AV.int .i64))] = ⟨τ ≠ 0 ∧ treeOk t = true ∧ ruleOk t r = true ∧ (∀ o ∈ places, 0 ≤ o → 0 ≤ devI t o), .bool (mayR t r places a node out)⟩ := semT6_eq (τ' := 0) (τ3 := 0) (τ4 := 0) (E := enTree) (F := enRule) (G := (En.int .i64).list) (H := (En.int .i64)) (J := (En.int .i64)) (K := (En.int .i64).list) (seen_Tree)
theorem p114 : Pure Tryz.prog 114 g114 := by
  refine semT6_pure fun τ τ' τ'' τ3 τ4 τ5 t r places a node out n h2 hpre => ?_
  have hT : Table Tryz.prog [(163, g163), (165, g165), (83, g83), (166, g166), (111, g111), (167, g167)] := (.cons p163 (.cons p165 (.cons p83 (.cons p166 (.cons p111 (.cons p167 .nil))))))
  have hn0 : n ≠ 0 := by omega
  refine SatP.of_body hT hm Tryz.func114 s114 o114 h2 (by simp) ?_
  obtain ⟨hp, ht, hr, hd⟩ := hpre
  have hr' := hr
  simp only [ruleOk, btw, Bool.and_eq_true, decide_eq_true_eq] at hr'
  have hk3 : kindOf t r.root = 3 := hr'.1.2
  by_cases h0 : 0 ≤ devI t node
  · have h0' : ¬ devI t node < 0 := by omega
    obtain ⟨hwt, hk0⟩ := wt_dev ht h0
    have hcf := confI_eq (kind := r.kind) (a := a) hd h0
    cases h1 : has (underF 5 t r.root) node
    · simp (config := {contextual := true, maxSteps := 2000000, implicitDefEqProofs := false}) [c114, go_sem, hp, ht, hk3, h0, h0', h1, mayR]
    · by_cases h2 : devW t node = 0
      · simp (config := {contextual := true, maxSteps := 2000000, implicitDefEqProofs := false}) [c114, go_sem, hp, ht, hk3, h0, h0', h1, hwt, hk0, h2, mayR]
      · cases h3 : has out node
        · cases h4 : domB t r.kind node
          · simp (config := {contextual := true, maxSteps := 2000000, implicitDefEqProofs := false}) [c114, go_sem, hp, ht, hk3, h0, h0', h1, hwt, hk0, h2, h3, h4, mayR]
          · simp (config := {contextual := true, maxSteps := 2000000, implicitDefEqProofs := false}) [c114, go_sem, hp, ht, hk3, h0, h0', h1, hwt, hk0, h2, h3, h4, hcf, mayR]
        · simp (config := {contextual := true, maxSteps := 2000000, implicitDefEqProofs := false}) [c114, go_sem, hp, ht, hk3, h0, h0', h1, hwt, hk0, h2, h3, mayR]
  · have h0' : devI t node < 0 := by omega
    simp (config := {contextual := true, maxSteps := 2000000, implicitDefEqProofs := false}) [c114, go_sem, hp, ht, hk3, h0, h0', mayR]
def c102 : SCode := (.seq (.reg [⟨(some 6), .box 39 (.tmp 0), none⟩,
   ⟨(some 7), .box 41 (.tmp 1), none⟩,
   ⟨(some 12), .assign (.const (.bool false)), none⟩])
(.seq (.reg [⟨(some 14), .load 39 (.tmp 6), none⟩,
    ⟨(some 15), .move (.tmp 4), none⟩,
    ⟨(some 16), .call ⟨(.value (.func 97)), #[(.tmp 14), (.tmp 15)], #[39, 2]⟩, none⟩,
    ⟨(some 13), .assign (.tmp 16), none⟩])
 (.seq (.seq (.reg [⟨(some 17), .move (.tmp 13), none⟩,
      ⟨(some 18), .binOp .lss 3 (.tmp 17) (.const (.int .i64 0)) 3, none⟩,
      ⟨(some 19), .move (.tmp 18), none⟩,
      ⟨(some 20), .fieldAddr 39 (.tmp 6) 0, (some (19, false))⟩,
      ⟨(some 21), .load 36 (.tmp 20), (some (19, false))⟩,
      ⟨(some 22), .move (.tmp 13), (some (19, false))⟩,
      ⟨(some 23), .indexAddr 36 (.tmp 21) (.tmp 22), (some (19, false))⟩,
      ⟨(some 24), .fieldAddr 135 (.tmp 23) 1, (some (19, false))⟩,
      ⟨(some 25), .load 2 (.tmp 24), (some (19, false))⟩,
      ⟨(some 26), .binOp .eql 2 (.tmp 25) (.const (.int .i64 0)) 2, (some (19, false))⟩,
      ⟨(some 27), .pick (.tmp 19) (.const (.bool true)) (.tmp 26), none⟩,
      ⟨(some 28), .move (.tmp 27), none⟩,
      ⟨(some 29), .move (.tmp 5), (some (28, false))⟩,
      ⟨(some 30), .move (.tmp 4), (some (28, false))⟩,
      ⟨(some 31), .call ⟨(.value (.func 126)), #[(.tmp 29), (.tmp 30)], #[28, 2]⟩, (some (28, false))⟩,
      ⟨(some 32), .pick (.tmp 28) (.const (.bool true)) (.tmp 31), none⟩,
      ⟨(some 33), .move (.tmp 32), none⟩,
      ⟨(some 34), .load 39 (.tmp 6), (some (33, false))⟩,
      ⟨(some 35), .fieldAddr 41 (.tmp 7) 1, (some (33, false))⟩,
      ⟨(some 36), .load 2 (.tmp 35), (some (33, false))⟩,
      ⟨(some 37), .call ⟨(.value (.func 155)), #[(.tmp 34), (.tmp 36)], #[39, 2]⟩, (some (33, false))⟩,
      ⟨(some 38), .move (.tmp 4), (some (33, false))⟩,
      ⟨(some 39), .call ⟨(.value (.func 126)), #[(.tmp 37), (.tmp 38)], #[28, 2]⟩, (some (33, false))⟩,
      ⟨(some 40), .unOp .not 4 (.tmp 39), (some (33, false))⟩,
      ⟨(some 41), .pick (.tmp 33) (.const (.bool true)) (.tmp 40), none⟩])
   (.cond (.tmp 41) (.seq (.reg [⟨(some 12), .assign (.const (.bool false)), none⟩])
     .ret)
    .skip))
  (.seq (.reg [⟨(some 42), .fieldAddr 41 (.tmp 7) 2, none⟩,
      ⟨(some 43), .load 2 (.tmp 42), none⟩,
      ⟨(some 44), .binOp .eql 2 (.tmp 43) (.const (.int .i64 0)) 2, none⟩,
      ⟨(some 45), .move (.tmp 44), none⟩,
      ⟨(some 46), .load 39 (.tmp 6), (some (45, false))⟩,
      ⟨(some 47), .fieldAddr 41 (.tmp 7) 2, (some (45, false))⟩,
      ⟨(some 48), .load 2 (.tmp 47), (some (45, false))⟩,
      ⟨(some 49), .move (.tmp 4), (some (45, false))⟩,
      ⟨(some 50), .call ⟨(.value (.func 98)), #[(.tmp 46), (.tmp 48), (.tmp 49)], #[39, 2, 2]⟩, (some (45, false))⟩,
      ⟨(some 51), .binOp .neq 2 (.tmp 50) (.const (.int .i64 0)) 2, (some (45, false))⟩,
      ⟨(some 52), .pick (.tmp 45) (.const (.bool true)) (.tmp 51), none⟩,
      ⟨(some 53), .move (.tmp 52), none⟩,
      ⟨(some 54), .load 39 (.tmp 6), (some (53, true))⟩,
      ⟨(some 55), .fieldAddr 41 (.tmp 7) 2, (some (53, true))⟩,
      ⟨(some 56), .load 2 (.tmp 55), (some (53, true))⟩,
      ⟨(some 57), .move (.tmp 2), (some (53, true))⟩,
      ⟨(some 58), .move (.tmp 3), (some (53, true))⟩,
      ⟨(some 59), .move (.tmp 4), (some (53, true))⟩,
      ⟨(some 60), .call ⟨(.value (.func 99)), #[(.tmp 54), (.tmp 56), (.tmp 57), (.tmp 58), (.tmp 59)], #[39, 2, 28, 3, 2]⟩, (some (53, true))⟩,
      ⟨(some 61), .pick (.tmp 53) (.tmp 60) (.const (.bool false)), none⟩,
      ⟨(some 12), .assign (.tmp 61), none⟩])
   .ret))))
theorem s102 : slimF Tryz.f102 = some (c102, [.t 12], 62) := by kernel_rfl
theorem o102 : okF [(97, g97), (126, g126), (155, g155), (98, g98), (99, g99)] Tryz.f102 = true := by kernel_rfl
noncomputable def g102 : Fsem := semT6 enTree enRule (En.int .i64).list (En.int .i64) (En.int .i64) (En.int .i64).list (fun τ t r places a node out => τ ≠ 0 ∧ treeOk t = true ∧ ruleOk t r = true ∧ (∀ o ∈ places, 0 ≤ o → 0 ≤ devI t o)) (fun n τ t r places a node out => .bool (mayR t r places a node out))
@[go_sem] theorem g102_eq {n τ τ'' τ5 : Nat} {t : Tree} {r : Rule} {places : List Int} {a : Int} {node : Int} {out : List Int} : g102 n [.agg [.sl τ 2 (t.devices.map (enDev.av τ)), .sl τ 3 (t.buckets.map (enBkt.av τ))], .agg [.int .i64 r.id, .int .i64 r.root, .int .i64 r.kind, .bool r.indep], .sl τ'' 1 (places.map (AV.int .i64)), .int .i64 a, .int .i64 node, .sl τ5 1 (out.map (AV.int .i64))] = ⟨τ ≠ 0 ∧ treeOk t = true ∧ ruleOk t r = true ∧ (∀ o ∈ places, 0 ≤ o → 0 ≤ devI t o), .bool (mayR t r places a node out)⟩ := semT6_eq (τ' := 0) (τ3 := 0) (τ4 := 0) (E := enTree) (F := enRule) (G := (En.int .i64).list) (H := (En.int .i64)) (J := (En.int .i64)) (K := (En.int .i64).list) (seen_Tree)
theorem p102 : Pure Tryz.prog 102 g102 := by
  refine semT6_pure fun τ τ' τ'' τ3 τ4 τ5 t r places a node out n h2 hpre => ?_
  have hT : Table Tryz.prog [(97, g97), (126, g126), (155, g155), (98, g98), (99, g99)] := (.cons p97 (.cons p126 (.cons p155 (.cons p98 (.cons p99 .nil)))))
  have hn0 : n ≠ 0 := by omega
  refine SatP.of_body hT hm Tryz.func102 s102 o102 h2 (by simp) ?_
  obtain ⟨hp, ht, hr, hd⟩ := hpre
  have hr' := hr
  simp only [ruleOk, btw, Bool.and_eq_true, decide_eq_true_eq] at hr'
  have hk3 : kindOf t r.root = 3 := hr'.1.2
  by_cases h0 : 0 ≤ devI t node
  · have h0' : ¬ devI t node < 0 := by omega
    obtain ⟨hwt, hk0⟩ := wt_dev ht h0
    have hcf := confI_eq (kind := r.kind) (a := a) hd h0
    obtain ⟨q, hq, hql, d, hqn, hdw⟩ := dev_at (τ := τ) h0
    have hq0 : (0 : Int) ≤ q := by omega
    have hq1 : ¬ (q : Int) < 0 := by omega
    have hq2 : (q : Int) < (t.devices.length : Int) := by omega
    have hug := underG_eq ht 5
    have hdB : domB t r.kind node = (decide (r.kind = 0) || !decide (domS t r.kind node = 0)) := by
      unfold domB domS
      by_cases h : r.kind = 0 <;> simp [h, h0]
    by_cases h2 : d.weight = 0
    · simp (config := {contextual := true, maxSteps := 2000000, implicitDefEqProofs := false}) [c102, go_sem, hp, ht, hk3, h0, hq, hq0, hq1, hq2, hql, hqn, h2, mayR, ← hdw]
    · cases h3 : has out node
      · cases h1 : has (underF 5 t r.root) node
        · simp (config := {contextual := true, maxSteps := 2000000, implicitDefEqProofs := false}) [c102, go_sem, hp, ht, hk3, h0, hq, hq0, hq1, hq2, hql, hqn, h2, h3, hug, h1, mayR, ← hdw]
        · by_cases h5 : r.kind = 0
          · have hdb : domB t 0 node = true := by unfold domB; simp [h0]
            simp (config := {contextual := true, maxSteps := 2000000, implicitDefEqProofs := false}) [c102, go_sem, hp, ht, hk3, h0, hq, hq0, hq1, hq2, hql, hqn, h2, h3, hug, h1, h5, hdb, mayR, ← hdw]
          · by_cases h6 : domS t r.kind node = 0
            · simp (config := {contextual := true, maxSteps := 2000000, implicitDefEqProofs := false}) [c102, go_sem, hp, ht, hk3, h0, hq, hq0, hq1, hq2, hql, hqn, h2, h3, hug, h1, h5, h6, hdB, mayR, ← hdw]
            · simp (config := {contextual := true, maxSteps := 2000000, implicitDefEqProofs := false}) [c102, go_sem, hp, ht, hk3, h0, hq, hq0, hq1, hq2, hql, hqn, h2, h3, hug, h1, h5, h6, hdB, mayR, ← hdw]
      · simp (config := {contextual := true, maxSteps := 2000000, implicitDefEqProofs := false}) [c102, go_sem, hp, ht, hk3, h0, hq, hq0, hq1, hq2, hql, hqn, h2, h3, mayR, ← hdw]
  · have h0' : devI t node < 0 := by omega
    simp (config := {contextual := true, maxSteps := 2000000, implicitDefEqProofs := false}) [c102, go_sem, hp, ht, hk3, h0, h0', mayR]
def c101 : SCode := (.seq (.reg [⟨(some 4), .assign (.const (.int .i64 0)), none⟩])
(.seq (.seq (.reg [⟨(some 5), .assign (.const (.int .i64 0)), none⟩])
  (.block 0 (.loop (.seq (.seq (.reg [⟨(some 6), .move (.tmp 5), none⟩,
         ⟨(some 7), .move (.tmp 0), none⟩,
         ⟨(some 8), .call ⟨(.builtin .len), #[(.tmp 7)], #[28]⟩, none⟩,
         ⟨(some 9), .binOp .lss 3 (.tmp 6) (.tmp 8) 3, none⟩])
      (.cond (.tmp 9) .skip
       (.exit 0)))
     (.seq (.block 1 (.seq (.reg [⟨(some 12), .move (.tmp 0), none⟩,
           ⟨(some 13), .move (.tmp 5), none⟩,
           ⟨(some 14), .indexAddr 28 (.tmp 12) (.tmp 13), none⟩,
           ⟨(some 15), .load 2 (.tmp 14), none⟩,
           ⟨(some 16), .move (.tmp 1), none⟩,
           ⟨(some 17), .binOp .eql 2 (.tmp 15) (.tmp 16) 2, none⟩])
        (.cond (.tmp 17) (.seq (.reg [⟨(some 18), .move (.tmp 5), none⟩,
             ⟨(some 4), .assign (.tmp 18), none⟩])
          .ret)
         .skip)))
      (.reg [⟨(some 10), .move (.tmp 5), none⟩,
         ⟨(some 11), .binOp .add 3 (.tmp 10) (.const (.int .i64 1)) 3, none⟩,
         ⟨(some 5), .assign (.tmp 11), none⟩]))))))
 (.seq (.reg [⟨(some 4), .assign (.const (.int .i64 (-1))), none⟩])
  .ret)))
theorem s101 : slimF Tryz.f101 = some (c101, [.t 4], 19) := by kernel_rfl
theorem o101 : okF [] Tryz.f101 = true := by kernel_rfl
noncomputable def g101 : Fsem := sem2 (En.int .i64).list (En.int .i64) (fun l v => True) (fun n l v => .int .i64 (idx (fun y => decide (v = y)) l))
@[go_sem] theorem g101_eq {n τ : Nat} {l : List Int} {v : Int} : g101 n [.sl τ 1 (l.map (AV.int .i64)), .int .i64 v] = ⟨True, .int .i64 (idx (fun y => decide (v = y)) l)⟩ := sem2_eq (τ' := 0) (E := (En.int .i64).list) (F := (En.int .i64))
theorem p101 : Pure Tryz.prog 101 g101 := by
  refine sem2_pure fun τ τ' l v n h2 hpre => ?_
  have hT : Table Tryz.prog [] := .nil
  have hn0 : n ≠ 0 := by omega
  refine SatP.of_body hT hm Tryz.func101 s101 o101 h2 (by simp) ?_
  generalize hr : idx (fun y => decide (v = y)) l = r
  simp (config := {contextual := true, maxSteps := 2000000, implicitDefEqProofs := false}) [c101, go_sem]
  refine VW_listK hT h2 hm l [0, 1] (fun pre post (b : Unit) => [(5, .int .i64 pre.length)]) (fun pre post (b : Unit) => idxF (fun y => decide (v = y)) post pre.length = r) () ?_ ?_ ?_ ?_
  · exact hr
  · simp [SubI, go_sem]
  · rintro _ hR
    have hR' : -1 = r := hR
    simp (config := {contextual := true, maxSteps := 2000000, implicitDefEqProofs := false}) [go_sem, ← hR']
  · rintro pre x post _ hl hlen hR
    have hln : l.length = pre.length + (post.length + 1) := by rw [← hl]; simp
    have hn : nth (List.map (AV.int .i64) l) (pre.length) = (AV.int .i64) x := by rw [← hl]; simp [go_sem]
    have hw : l.length ≤ maxLen → IntKind.i64.wrap ((pre.length : Int) + 1) = (pre.length : Int) + 1 := fun h => wrap_ok (by omega) (by simp only [maxLen] at h; omega)
    have h3 : (0 : Int) ≤ (pre.length : Int) := by omega
    have h4 : (pre.length : Int) < (l.length : Int) := by omega
    have h5 : ¬ (l.length : Int) ≤ (pre.length : Int) := by omega
    simp only [idxF] at hR
    simp (config := {contextual := true, maxSteps := 2000000, implicitDefEqProofs := false}) [go_sem, hn, hw, h3, h4, h5, SubI]
    grind
end Go.Ve
namespace Go.Ve
open Go.Proofs Go.RowKit
set_option linter.unusedVariables false
set_option linter.unusedSimpArgs false
set_option maxRecDepth 10000
set_option maxHeartbeats 4000000
theorem g114_nil {n τ τ3 τ6 : Nat} {t : Tree} {r : Rule} {a node : Int} {places : List Int} : g114 n [.agg [.sl τ 2 (t.devices.map (enDev.av τ)), .sl τ 3 (t.buckets.map (enBkt.av τ))], .agg [.int .i64 r.id, .int .i64 r.root, .int .i64 r.kind, .bool r.indep], .sl τ3 1 (places.map (AV.int .i64)), .int .i64 a, .int .i64 node, .sl τ6 1 []] = ⟨τ ≠ 0 ∧ treeOk t = true ∧ ruleOk t r = true ∧ (∀ o ∈ places, 0 ≤ o → 0 ≤ devI t o), .bool (mayR t r places a node [])⟩ := g114_eq (out := [])
def c54 : SCode := (.seq (.reg [⟨(some 6), .box 39 (.tmp 0), none⟩,
   ⟨(some 7), .box 41 (.tmp 1), none⟩,
   ⟨(some 9), .box 44 (.tmp 3), none⟩,
   ⟨(some 12), .assign (.const (.slice none 0 0)), none⟩])
(.seq (.reg [⟨(some 16), .move (.tmp 2), none⟩,
    ⟨(some 17), .call ⟨(.value (.func 112)), #[(.tmp 16)], #[28]⟩, none⟩,
    ⟨(some 2), .assign (.tmp 17), none⟩])
 (.seq (.seq (.reg [⟨(some 18), .move (.tmp 4), none⟩,
      ⟨(some 19), .call ⟨(.builtin .len), #[(.tmp 18)], #[46]⟩, none⟩,
      ⟨(some 20), .move (.const (.int .i64 0)), none⟩])
   (.block 0 (.loop (.seq (.reg [⟨(some 21), .binOp .lss 3 (.tmp 20) (.tmp 19) 3, none⟩])
      (.seq (.cond (.tmp 21) .skip
        (.exit 0))
       (.seq (.block 1 (.seq (.reg [⟨(some 22), .indexAddr 46 (.tmp 18) (.tmp 20), none⟩,
             ⟨(some 23), .load 93 (.tmp 22), none⟩,
             ⟨(some 14), .alloc 93, none⟩,
             ⟨none, .store 93 (.tmp 14) (.tmp 23), none⟩])
          (.seq (.reg [⟨(some 24), .move (.tmp 2), none⟩,
              ⟨(some 25), .fieldAddr 93 (.tmp 14) 1, none⟩,
              ⟨(some 26), .load 2 (.tmp 25), none⟩,
              ⟨(some 27), .call ⟨(.value (.func 113)), #[(.tmp 24), (.tmp 26)], #[28, 2]⟩, none⟩,
              ⟨(some 15), .assign (.tmp 27), none⟩])
           (.seq (.reg [⟨(some 28), .fieldAddr 93 (.tmp 14) 0, none⟩,
               ⟨(some 29), .load 44 (.tmp 28), none⟩,
               ⟨(some 30), .load 44 (.tmp 9), none⟩,
               ⟨(some 31), .binOp .eql 44 (.tmp 29) (.tmp 30) 44, none⟩,
               ⟨(some 32), .move (.tmp 31), none⟩,
               ⟨(some 33), .move (.tmp 15), (some (32, true))⟩,
               ⟨(some 34), .binOp .geq 3 (.tmp 33) (.const (.int .i64 0)) 3, (some (32, true))⟩,
               ⟨(some 35), .pick (.tmp 32) (.tmp 34) (.const (.bool false)), none⟩,
               ⟨(some 36), .move (.tmp 35), none⟩,
               ⟨(some 37), .load 39 (.tmp 6), (some (36, true))⟩,
               ⟨(some 38), .load 41 (.tmp 7), (some (36, true))⟩,
               ⟨(some 39), .move (.tmp 2), (some (36, true))⟩,
               ⟨(some 40), .move (.tmp 15), (some (36, true))⟩,
               ⟨(some 41), .fieldAddr 93 (.tmp 14) 2, (some (36, true))⟩,
               ⟨(some 42), .load 2 (.tmp 41), (some (36, true))⟩,
               ⟨(some 43), .move (.tmp 5), (some (36, true))⟩,
               ⟨(some 44), .call ⟨(.value (.func 114)), #[(.tmp 37), (.tmp 38), (.tmp 39), (.tmp 40), (.tmp 42), (.tmp 43)], #[39, 41, 28, 2, 2, 28]⟩, (some (36, true))⟩,
               ⟨(some 45), .pick (.tmp 36) (.tmp 44) (.const (.bool false)), none⟩])
            (.cond (.tmp 45) (.reg [⟨(some 46), .move (.tmp 2), none⟩,
                ⟨(some 47), .move (.tmp 15), none⟩,
                ⟨(some 48), .fieldAddr 93 (.tmp 14) 2, none⟩,
                ⟨(some 49), .load 2 (.tmp 48), none⟩,
                ⟨(some 50), .indexAddr 28 (.tmp 46) (.tmp 47), none⟩,
                ⟨none, .store 2 (.tmp 50) (.tmp 49), none⟩])
             .skip)))))
        (.reg [⟨(some 51), .binOp .add 3 (.tmp 20) (.const (.int .i64 1)) 3, none⟩,
           ⟨(some 20), .move (.tmp 51), none⟩])))))))
  (.seq (.reg [⟨(some 52), .move (.tmp 2), none⟩,
      ⟨(some 12), .assign (.tmp 52), none⟩])
   .ret))))
theorem s54 : slimF Tryz.f54 = some (c54, [.t 12], 53) := by kernel_rfl
theorem o54 : okF [(113, g113), (114, (nilw [.k, .k, .k, .k, .k, .c 1] g114))] Tryz.f54 = true := by kernel_rfl
theorem sat_54 {n : Nat} (h2 : 2 ≤ n) {τ τ3 τ5 : Nat} {t : Tree} {r : Rule} {places : List Int} {g : Pg} {l : List Exc} (hp : τ ≠ 0) (ht : treeOk t = true) (hr : ruleOk t r = true) (hd : ∀ o ∈ places, 0 ≤ o → 0 ≤ devI t o) (hpl : places.length ≤ 1048576) : SatM Tryz.prog n 54 [] [.agg [.sl τ 2 (t.devices.map (enDev.av τ)), .sl τ 3 (t.buckets.map (enBkt.av τ))], .agg [.int .i64 r.id, .int .i64 r.root, .int .i64 r.kind, .bool r.indep], .sl τ3 1 (places.map (AV.int .i64)), .agg [.int .i64 g.pool, .int .i64 g.no], .sl τ5 4 (l.map (enExc.av τ5)), .nils] [.row 2 1 ((exL t r g [] places l).map (AV.int .i64))] (.osl 0 1 0 (exL t r g [] places l).length) := by
  have hT : Table Tryz.prog [(113, g113), (114, (nilw [.k, .k, .k, .k, .k, .c 1] g114))] := (.cons p113 (.cons (nilw_pure _ p114) .nil))
  have hn0 : n ≠ 0 := by omega
  refine SatM.of_bodyV hT hm Tryz.func54 s54 o54 h2 (by simp) ?_
  simp (config := {contextual := true, maxSteps := 2000000, implicitDefEqProofs := false}) [c54, go_sem]
  refine ⟨112, [], rfl, [], n, [.row 2 1 ((places).map (AV.int .i64))], .osl 0 1 0 places.length, Nat.le_refl _, by simp, by simp, by simp [go_sem, posOf], by simpa [go_sem, rinOf, posOf] using sat_clone (n := n) (τ := τ3) (l := places) hpl, ?_⟩
  simp (config := {contextual := true, maxSteps := 2000000, implicitDefEqProofs := false}) [go_sem, stOf, putAll, gmap, Root.ren, AV.ren, AV.ren2, AV.ren1, AV.ren0]
  intro hL
  refine VW_listKE [] [6, 7, 9, 2] hT h2 hm l [2, 5, 6, 7, 9, 18, 19] (fun pre post (u0 : Unit) => [.box 39 [.sl τ 2 (t.devices.map (enDev.av τ)), .sl τ 3 (t.buckets.map (enBkt.av τ))], .box 41 [.int .i64 r.id, .int .i64 r.root, .int .i64 r.kind, .bool r.indep], .box 44 [.int .i64 g.pool, .int .i64 g.no], .row 2 1 ((exL t r g [] places pre).map (AV.int .i64))]) (fun pre post (u0 : Unit) => [(20, .int .i64 pre.length)]) (fun pre post (u0 : Unit) => True) () ?_ ?_ ?_ ?_
  · trivial
  · simp only [subE_go, subR_go, anOf_nil, anOf_cons, tmOk_nil, tmOk_cons]
    simp [go_sem, subE_go, subR_go, anOf_nil, anOf_cons, tmOk_nil, tmOk_cons, exL]
  · rintro u0 hR
    have hil : (exL t r g [] places l).length = places.length := exL_len
    generalize exL t r g [] places l = q at *
    rw [← hil]
    simp (config := {contextual := true, maxSteps := 2000000, implicitDefEqProofs := false}) [go_sem]
    refine ⟨_, [3], Sub.refl 0 _, ?_⟩
    simp [retM, resAV, rvV, rinOf, Root.rnp, AV.rnp, AV.rnp2, AV.rnp1, AV.rnp0, posOf, go_sem, Rz, nz_int, nz_osl, nz_tup, hil]
  · rintro pre x post _ hl hlen _
    have hln : l.length = pre.length + (post.length + 1) := by rw [← hl]; simp
    have hn : nth (List.map (enExc.av τ5) l) (pre.length) = (enExc.av τ5) x := by rw [← hl]; simp [go_sem]
    have hw : l.length ≤ maxLen → IntKind.i64.wrap ((pre.length : Int) + 1) = (pre.length : Int) + 1 := fun h => wrap_ok (by omega) (by simp only [maxLen] at h; omega)
    have h3 : (0 : Int) ≤ (pre.length : Int) := by omega
    have h4 : (pre.length : Int) < (l.length : Int) := by omega
    have h5 : ¬ (l.length : Int) ≤ (pre.length : Int) := by omega
    have hil : (exL t r g [] places pre).length = places.length := exL_len
    have hdv : ∀ o ∈ exL t r g [] places pre, 0 ≤ o → 0 ≤ devI t o := exL_dev hd
    have htk : List.take places.length ((exL t r g [] places pre).map (AV.int .i64)) = (exL t r g [] places pre).map (AV.int .i64) := List.take_of_length_le (by simp [hil])
    have hone : exL t r g [] places (pre ++ [x]) = exStep t r g [] (exL t r g [] places pre) x := exL_one
    generalize hq : exL t r g [] places pre = q at *
    have hat : idx (fun y => decide (x.from_ = y)) q = atE x q := rfl
    by_cases hc : x.pg.pool = g.pool ∧ x.pg.no = g.no ∧ 0 ≤ atE x q ∧ mayR t r q (atE x q) x.to_ [] = true
    · have hst : exStep t r g [] q x = q.set (atE x q).toNat x.to_ := if_pos hc
      obtain ⟨c1, c2, c3, c4⟩ := hc
      obtain ⟨a, ha, hal⟩ := atE_lt c3
      rw [ha] at c4 hst
      have ha0 : (0 : Int) ≤ a := by omega
      have ha1 : (a : Int) < (places.length : Int) := by omega
      have ha2 : a < places.length := by omega
      have hn2 := nth_get (l := q) (i := a) hal
      have hset : (q.map (AV.int .i64)).set a (.int .i64 x.to_) = (exStep t r g [] q x).map (AV.int .i64) := by rw [hst, Int.toNat_natCast, List.map_set]
      simp (config := {contextual := true, maxSteps := 2000000, implicitDefEqProofs := false}) [go_sem, hn, hw, hL, h3, h4, h5, htk, hil, hat, ha, ha0, ha1, ha2, c1, c2, c4, hp, ht, hr, g114_nil, hn2, setEl, hset, hone]
      refine ⟨hdv, ?_⟩
      simp only [subE_go, subR_go, anOf_nil, anOf_cons, tmOk_nil, tmOk_cons]
      simp (config := {contextual := true, maxSteps := 2000000, implicitDefEqProofs := false}) [go_sem, subE_go, subR_go, anOf_nil, anOf_cons, tmOk_nil, tmOk_cons]
    · have hst : exStep t r g [] q x = q := if_neg hc
      rw [hst] at hone
      by_cases c12 : x.pg.pool = g.pool ∧ x.pg.no = g.no
      · obtain ⟨c1, c2⟩ := c12
        by_cases c3 : 0 ≤ atE x q
        · have c4 : mayR t r q (atE x q) x.to_ [] = false := by
            cases h : mayR t r q (atE x q) x.to_ [] with
            | false => rfl
            | true => exact absurd ⟨c1, c2, c3, h⟩ hc
          simp (config := {contextual := true, maxSteps := 2000000, implicitDefEqProofs := false}) [go_sem, hn, hw, hL, h3, h4, h5, htk, hil, hat, c3, c1, c2, c4, hp, ht, hr, g114_nil, hone]
          refine ⟨hdv, ?_⟩
          simp only [subE_go, subR_go, anOf_nil, anOf_cons, tmOk_nil, tmOk_cons]
          simp (config := {contextual := true, maxSteps := 2000000, implicitDefEqProofs := false}) [go_sem, subE_go, subR_go, anOf_nil, anOf_cons, tmOk_nil, tmOk_cons]
        · simp (config := {contextual := true, maxSteps := 2000000, implicitDefEqProofs := false}) [go_sem, hn, hw, hL, h3, h4, h5, htk, hil, hat, c3, c1, c2, hone]
          simp only [subE_go, subR_go, anOf_nil, anOf_cons, tmOk_nil, tmOk_cons]
          simp (config := {contextual := true, maxSteps := 2000000, implicitDefEqProofs := false}) [go_sem, subE_go, subR_go, anOf_nil, anOf_cons, tmOk_nil, tmOk_cons]
      · have c12' : ¬ (x.pg.pool = g.pool) ∨ ¬ (x.pg.no = g.no) := by grind
        rcases c12' with c1 | c2
        · simp (config := {contextual := true, maxSteps := 2000000, implicitDefEqProofs := false}) [go_sem, hn, hw, hL, h3, h4, h5, htk, hil, hat, c1, hone]
          simp only [subE_go, subR_go, anOf_nil, anOf_cons, tmOk_nil, tmOk_cons]
          simp (config := {contextual := true, maxSteps := 2000000, implicitDefEqProofs := false}) [go_sem, subE_go, subR_go, anOf_nil, anOf_cons, tmOk_nil, tmOk_cons]
        · simp (config := {contextual := true, maxSteps := 2000000, implicitDefEqProofs := false}) [go_sem, hn, hw, hL, h3, h4, h5, htk, hil, hat, c2, hone]
          simp only [subE_go, subR_go, anOf_nil, anOf_cons, tmOk_nil, tmOk_cons]
          simp (config := {contextual := true, maxSteps := 2000000, implicitDefEqProofs := false}) [go_sem, subE_go, subR_go, anOf_nil, anOf_cons, tmOk_nil, tmOk_cons]
theorem g102_nil {n τ τ3 τ6 : Nat} {t : Tree} {r : Rule} {a node : Int} {places : List Int} : g102 n [.agg [.sl τ 2 (t.devices.map (enDev.av τ)), .sl τ 3 (t.buckets.map (enBkt.av τ))], .agg [.int .i64 r.id, .int .i64 r.root, .int .i64 r.kind, .bool r.indep], .sl τ3 1 (places.map (AV.int .i64)), .int .i64 a, .int .i64 node, .sl τ6 1 []] = ⟨τ ≠ 0 ∧ treeOk t = true ∧ ruleOk t r = true ∧ (∀ o ∈ places, 0 ≤ o → 0 ≤ devI t o), .bool (mayR t r places a node [])⟩ := g102_eq (out := [])
def c47 : SCode := (.seq (.reg [⟨(some 6), .box 39 (.tmp 0), none⟩,
   ⟨(some 7), .box 41 (.tmp 1), none⟩,
   ⟨(some 9), .box 44 (.tmp 3), none⟩,
   ⟨(some 12), .assign (.const (.slice none 0 0)), none⟩])
(.seq (.reg [⟨(some 15), .move (.tmp 2), none⟩,
    ⟨(some 16), .call ⟨(.value (.func 100)), #[(.tmp 15)], #[28]⟩, none⟩,
    ⟨(some 2), .assign (.tmp 16), none⟩])
 (.seq (.seq (.reg [⟨(some 13), .assign (.const (.int .i64 0)), none⟩])
   (.block 0 (.loop (.seq (.seq (.reg [⟨(some 17), .move (.tmp 13), none⟩,
          ⟨(some 18), .move (.tmp 4), none⟩,
          ⟨(some 19), .call ⟨(.builtin .len), #[(.tmp 18)], #[46]⟩, none⟩,
          ⟨(some 20), .binOp .lss 3 (.tmp 17) (.tmp 19) 3, none⟩])
       (.cond (.tmp 20) .skip
        (.exit 0)))
      (.seq (.block 1 (.seq (.reg [⟨(some 23), .move (.tmp 2), none⟩,
            ⟨(some 24), .move (.tmp 4), none⟩,
            ⟨(some 25), .move (.tmp 13), none⟩,
            ⟨(some 26), .indexAddr 46 (.tmp 24) (.tmp 25), none⟩,
            ⟨(some 27), .fieldAddr 93 (.tmp 26) 1, none⟩,
            ⟨(some 28), .load 2 (.tmp 27), none⟩,
            ⟨(some 29), .call ⟨(.value (.func 101)), #[(.tmp 23), (.tmp 28)], #[28, 2]⟩, none⟩,
            ⟨(some 14), .assign (.tmp 29), none⟩])
         (.seq (.draw [⟨(some 30), .move (.tmp 4), none⟩,
             ⟨(some 31), .move (.tmp 13), none⟩,
             ⟨(some 32), .indexAddr 46 (.tmp 30) (.tmp 31), none⟩,
             ⟨(some 33), .fieldAddr 93 (.tmp 32) 0, none⟩,
             ⟨(some 34), .load 44 (.tmp 33), none⟩,
             ⟨(some 35), .load 44 (.tmp 9), none⟩,
             ⟨(some 36), .binOp .eql 44 (.tmp 34) (.tmp 35) 44, none⟩,
             ⟨(some 37), .move (.tmp 36), none⟩,
             ⟨(some 38), .move (.tmp 14), (some (37, true))⟩,
             ⟨(some 39), .binOp .geq 3 (.tmp 38) (.const (.int .i64 0)) 3, (some (37, true))⟩,
             ⟨(some 40), .pick (.tmp 37) (.tmp 39) (.const (.bool false)), none⟩,
             ⟨(some 41), .move (.tmp 40), none⟩,
             ⟨(some 42), .load 39 (.tmp 6), (some (41, true))⟩,
             ⟨(some 43), .load 41 (.tmp 7), (some (41, true))⟩,
             ⟨(some 44), .move (.tmp 2), (some (41, true))⟩,
             ⟨(some 45), .move (.tmp 14), (some (41, true))⟩,
             ⟨(some 46), .move (.tmp 4), (some (41, true))⟩,
             ⟨(some 47), .move (.tmp 13), (some (41, true))⟩,
             ⟨(some 48), .indexAddr 46 (.tmp 46) (.tmp 47), (some (41, true))⟩,
             ⟨(some 49), .fieldAddr 93 (.tmp 48) 2, (some (41, true))⟩,
             ⟨(some 50), .load 2 (.tmp 49), (some (41, true))⟩,
             ⟨(some 51), .move (.tmp 5), (some (41, true))⟩,
             ⟨(some 52), .call ⟨(.value (.func 102)), #[(.tmp 42), (.tmp 43), (.tmp 44), (.tmp 45), (.tmp 50), (.tmp 51)], #[39, 41, 28, 3, 2, 28]⟩, (some (41, true))⟩,
             ⟨(some 53), .pick (.tmp 41) (.tmp 52) (.const (.bool false)), none⟩] [[], [], [0, 1], [0, 1, 2], [0, 1, 2, 3], [], [0, 1, 2, 3, 4, 5], [0, 1, 2, 3, 4, 5, 6], [0, 1, 2, 3, 4, 5, 6, 7], [0, 1, 2, 3, 4, 5, 6, 7, 8], [0, 1, 2, 3, 4, 5, 6, 7, 8, 9], [0, 1, 2, 3, 4, 5, 6, 7, 8, 9, 10], [0, 1, 2, 3, 4, 5, 6, 7, 8, 9, 10, 11], [0, 1, 2, 3, 4, 5, 6, 7, 8, 9, 10, 11], [0, 1, 2, 3, 4, 5, 6, 7, 8, 9, 10, 11], [0, 1, 2, 3, 4, 5, 6, 7, 8, 9, 10, 11], [0, 1, 2, 3, 4, 5, 6, 7, 8, 9, 10, 11], [0, 1, 2, 3, 4, 5, 6, 7, 8, 9, 10, 11], [0, 1, 2, 3, 4, 5, 6, 7, 8, 9, 10, 11, 16, 17], [0, 1, 2, 3, 4, 5, 6, 7, 8, 9, 10, 11, 16, 17, 18], [0, 1, 2, 3, 4, 5, 6, 7, 8, 9, 10, 11, 16, 17, 18, 19], [0, 1, 2, 3, 4, 5, 6, 7, 8, 9, 10, 11], [0, 1, 2, 3, 4, 5, 6, 7, 8, 9, 10, 11, 12, 13, 14, 15, 16, 17, 18, 19, 20, 21], [0, 1, 2, 3, 4, 5, 6, 7, 8, 9, 10, 11, 12, 13, 14, 15, 16, 17, 18, 19, 20, 21, 22]])
          (.cond (.tmp 53) (.reg [⟨(some 54), .move (.tmp 2), none⟩,
              ⟨(some 55), .move (.tmp 14), none⟩,
              ⟨(some 56), .move (.tmp 4), none⟩,
              ⟨(some 57), .move (.tmp 13), none⟩,
              ⟨(some 58), .indexAddr 46 (.tmp 56) (.tmp 57), none⟩,
              ⟨(some 59), .fieldAddr 93 (.tmp 58) 2, none⟩,
              ⟨(some 60), .load 2 (.tmp 59), none⟩,
              ⟨(some 61), .indexAddr 28 (.tmp 54) (.tmp 55), none⟩,
              ⟨none, .store 2 (.tmp 61) (.tmp 60), none⟩])
           .skip))))
       (.reg [⟨(some 21), .move (.tmp 13), none⟩,
          ⟨(some 22), .binOp .add 3 (.tmp 21) (.const (.int .i64 1)) 3, none⟩,
          ⟨(some 13), .assign (.tmp 22), none⟩]))))))
  (.seq (.reg [⟨(some 62), .move (.tmp 2), none⟩,
      ⟨(some 12), .assign (.tmp 62), none⟩])
   .ret))))
theorem s47 : slimF Tryz.f47 = some (c47, [.t 12], 63) := by kernel_rfl
theorem o47 : okF [(101, g101), (102, g102)] Tryz.f47 = true := by kernel_rfl
noncomputable def g47 : Fsem := semT6 enTree enRule (En.int .i64).list enPg enExc.list (En.int .i64).list (fun τ t r places g l out => τ ≠ 0 ∧ treeOk t = true ∧ ruleOk t r = true ∧ (∀ o ∈ places, 0 ≤ o → 0 ≤ devI t o) ∧ places.length ≤ 1048576 ∧ out = []) (fun n τ t r places g l out => .sl n 1 ((exL t r g [] places l).map (AV.int .i64)))
@[go_sem] theorem g47_eq {n τ τ'' τ4 τ5 : Nat} {t : Tree} {r : Rule} {places : List Int} {g : Pg} {l : List Exc} {out : List Int} : g47 n [.agg [.sl τ 2 (t.devices.map (enDev.av τ)), .sl τ 3 (t.buckets.map (enBkt.av τ))], .agg [.int .i64 r.id, .int .i64 r.root, .int .i64 r.kind, .bool r.indep], .sl τ'' 1 (places.map (AV.int .i64)), .agg [.int .i64 g.pool, .int .i64 g.no], .sl τ4 4 (l.map (enExc.av τ4)), .sl τ5 1 (out.map (AV.int .i64))] = ⟨τ ≠ 0 ∧ treeOk t = true ∧ ruleOk t r = true ∧ (∀ o ∈ places, 0 ≤ o → 0 ≤ devI t o) ∧ places.length ≤ 1048576 ∧ out = [], .sl n 1 ((exL t r g [] places l).map (AV.int .i64))⟩ := semT6_eq (τ' := 0) (τ3 := 0) (E := enTree) (F := enRule) (G := (En.int .i64).list) (H := enPg) (J := enExc.list) (K := (En.int .i64).list) (seen_Tree)
theorem p47 : Pure Tryz.prog 47 g47 := by
  refine semT6_pure fun τ τ' τ'' τ3 τ4 τ5 t r places g l out n h2 hpre => ?_
  have hT : Table Tryz.prog [(101, g101), (102, g102)] := (.cons p101 (.cons p102 .nil))
  have hn0 : n ≠ 0 := by omega
  refine SatP.of_body hT hm Tryz.func47 s47 o47 h2 (by simp) ?_
  obtain ⟨hp, ht, hr, hd, hpl, rfl⟩ := hpre
  simp (config := {contextual := true, maxSteps := 2000000, implicitDefEqProofs := false}) [c47, go_sem]
  refine ⟨100, [], rfl, [], n, [.row 2 1 ((places).map (AV.int .i64))], .osl 0 1 0 places.length, Nat.le_refl _, by simp, by simp, by simp [go_sem, posOf], by simpa [go_sem, rinOf, posOf] using sat_100 h2 (τ := τ'') (l := places) hpl, ?_⟩
  simp (config := {contextual := true, maxSteps := 2000000, implicitDefEqProofs := false}) [go_sem, stOf, putAll, gmap, Root.ren, AV.ren, AV.ren2, AV.ren1, AV.ren0]
  refine VW_listKE [] [6, 7, 9, 2] hT h2 hm l [2, 4, 5, 6, 7, 9] (fun pre post (u0 : Unit) => [.box 39 [.sl τ 2 (t.devices.map (enDev.av τ)), .sl τ 3 (t.buckets.map (enBkt.av τ))], .box 41 [.int .i64 r.id, .int .i64 r.root, .int .i64 r.kind, .bool r.indep], .box 44 [.int .i64 g.pool, .int .i64 g.no], .row 2 1 ((exL t r g [] places pre).map (AV.int .i64))]) (fun pre post (u0 : Unit) => [(13, .int .i64 pre.length)]) (fun pre post (u0 : Unit) => True) () ?_ ?_ ?_ ?_
  · trivial
  · simp only [subE_go, subR_go, anOf_nil, anOf_cons, tmOk_nil, tmOk_cons]
    simp [go_sem, subE_go, subR_go, anOf_nil, anOf_cons, tmOk_nil, tmOk_cons, exL]
  · rintro u0 hR
    have hil : (exL t r g [] places l).length = places.length := exL_len
    generalize exL t r g [] places l = q at *
    rw [← hil]
    simp (config := {contextual := true, maxSteps := 2000000, implicitDefEqProofs := false}) [go_sem, hn0]
  · rintro pre x post _ hl hlen _
    have hln : l.length = pre.length + (post.length + 1) := by rw [← hl]; simp
    have hn : nth (List.map (enExc.av τ4) l) (pre.length) = (enExc.av τ4) x := by rw [← hl]; simp [go_sem]
    have hw : l.length ≤ maxLen → IntKind.i64.wrap ((pre.length : Int) + 1) = (pre.length : Int) + 1 := fun h => wrap_ok (by omega) (by simp only [maxLen] at h; omega)
    have h3 : (0 : Int) ≤ (pre.length : Int) := by omega
    have h4 : (pre.length : Int) < (l.length : Int) := by omega
    have h5 : ¬ (l.length : Int) ≤ (pre.length : Int) := by omega
    have hil : (exL t r g [] places pre).length = places.length := exL_len
    have hdv : ∀ o ∈ exL t r g [] places pre, 0 ≤ o → 0 ≤ devI t o := exL_dev hd
    have htk : List.take places.length ((exL t r g [] places pre).map (AV.int .i64)) = (exL t r g [] places pre).map (AV.int .i64) := List.take_of_length_le (by simp [hil])
    have hone : exL t r g [] places (pre ++ [x]) = exStep t r g [] (exL t r g [] places pre) x := exL_one
    generalize hq : exL t r g [] places pre = q at *
    have hat : idx (fun y => decide (x.from_ = y)) q = atE x q := rfl
    by_cases hc : x.pg.pool = g.pool ∧ x.pg.no = g.no ∧ 0 ≤ atE x q ∧ mayR t r q (atE x q) x.to_ [] = true
    · have hst : exStep t r g [] q x = q.set (atE x q).toNat x.to_ := if_pos hc
      obtain ⟨c1, c2, c3, c4⟩ := hc
      obtain ⟨a, ha, hal⟩ := atE_lt c3
      rw [ha] at c4 hst
      have ha0 : (0 : Int) ≤ a := by omega
      have ha1 : (a : Int) < (places.length : Int) := by omega
      have ha2 : a < places.length := by omega
      have hn2 := nth_get (l := q) (i := a) hal
      have hset : (q.map (AV.int .i64)).set a (.int .i64 x.to_) = (exStep t r g [] q x).map (AV.int .i64) := by rw [hst, Int.toNat_natCast, List.map_set]
      simp (config := {contextual := true, maxSteps := 2000000, implicitDefEqProofs := false}) [go_sem, hn, hw,  h3, h4, h5, htk, hil, hat, ha, ha0, ha1, ha2, c1, c2, c4, hp, ht, hr, g102_nil, hn2, setEl, hset, hone]
      intro _; refine ⟨hdv, ?_⟩
      simp only [subE_go, subR_go, anOf_nil, anOf_cons, tmOk_nil, tmOk_cons]
      simp (config := {contextual := true, maxSteps := 2000000, implicitDefEqProofs := false}) [go_sem, subE_go, subR_go, anOf_nil, anOf_cons, tmOk_nil, tmOk_cons]
    · have hst : exStep t r g [] q x = q := if_neg hc
      rw [hst] at hone
      by_cases c12 : x.pg.pool = g.pool ∧ x.pg.no = g.no
      · obtain ⟨c1, c2⟩ := c12
        by_cases c3 : 0 ≤ atE x q
        · have c4 : mayR t r q (atE x q) x.to_ [] = false := by
            cases h : mayR t r q (atE x q) x.to_ [] with
            | false => rfl
            | true => exact absurd ⟨c1, c2, c3, h⟩ hc
          simp (config := {contextual := true, maxSteps := 2000000, implicitDefEqProofs := false}) [go_sem, hn, hw,  h3, h4, h5, htk, hil, hat, c3, c1, c2, c4, hp, ht, hr, g102_nil, hone]
          intro _; refine ⟨hdv, ?_⟩
          simp only [subE_go, subR_go, anOf_nil, anOf_cons, tmOk_nil, tmOk_cons]
          simp (config := {contextual := true, maxSteps := 2000000, implicitDefEqProofs := false}) [go_sem, subE_go, subR_go, anOf_nil, anOf_cons, tmOk_nil, tmOk_cons]
        · simp (config := {contextual := true, maxSteps := 2000000, implicitDefEqProofs := false}) [go_sem, hn, hw,  h3, h4, h5, htk, hil, hat, c3, c1, c2, hone]
          intro _; simp only [subE_go, subR_go, anOf_nil, anOf_cons, tmOk_nil, tmOk_cons]
          simp (config := {contextual := true, maxSteps := 2000000, implicitDefEqProofs := false}) [go_sem, subE_go, subR_go, anOf_nil, anOf_cons, tmOk_nil, tmOk_cons]
      · have c12' : ¬ (x.pg.pool = g.pool) ∨ ¬ (x.pg.no = g.no) := by grind
        rcases c12' with c1 | c2
        · simp (config := {contextual := true, maxSteps := 2000000, implicitDefEqProofs := false}) [go_sem, hn, hw,  h3, h4, h5, htk, hil, hat, c1, hone]
          intro _; simp only [subE_go, subR_go, anOf_nil, anOf_cons, tmOk_nil, tmOk_cons]
          simp (config := {contextual := true, maxSteps := 2000000, implicitDefEqProofs := false}) [go_sem, subE_go, subR_go, anOf_nil, anOf_cons, tmOk_nil, tmOk_cons]
        · simp (config := {contextual := true, maxSteps := 2000000, implicitDefEqProofs := false}) [go_sem, hn, hw,  h3, h4, h5, htk, hil, hat, c2, hone]
          intro _; simp only [subE_go, subR_go, anOf_nil, anOf_cons, tmOk_nil, tmOk_cons]
          simp (config := {contextual := true, maxSteps := 2000000, implicitDefEqProofs := false}) [go_sem, subE_go, subR_go, anOf_nil, anOf_cons, tmOk_nil, tmOk_cons]
end Go.Ve
