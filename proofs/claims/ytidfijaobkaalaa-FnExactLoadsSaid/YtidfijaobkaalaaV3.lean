/- Contracts of the seat: bounds, searches. No condition. -/
import Derived.Test.YtidfijaobkaalaaV2
namespace Go.Ve
open Go.Proofs Go.RowKit
set_option linter.unusedVariables false
set_option linter.unusedSimpArgs false
set_option maxRecDepth 10000
set_option maxHeartbeats 4000000
def btw (n lo hi : Int) : Bool := decide (lo ≤ n) && decide (n ≤ hi)
theorem seen_Tree : Seen enTree := fun τ τ' x y h => by
  have := congrArg (fun v => match v with | AV.agg (.sl t _ _ :: _) => t | _ => 0) h
  exact this
theorem seen_Mp : Seen enMp := fun τ τ' x y h => by
  have := congrArg (fun v => match v with | AV.agg (_ :: _ :: .sl t _ _ :: _) => t | _ => 0) h
  exact this
def devI (t : Tree) (id : Int) : Int := idx (fun d : Dev => decide (d.id = id)) t.devices
def bktI (t : Tree) (id : Int) : Int := idx (fun b : Bkt => decide (b.id = id)) t.buckets
def bktO (t : Tree) (id : Int) : Option Bkt := t.buckets.find? (fun b : Bkt => decide (b.id = id))
def kindOf (t : Tree) (id : Int) : Int := if 0 ≤ devI t id then 0 else match bktO t id with
  | some b => b.kind
  | none => -1
/-- Each against the one ahead of it. -/
def chk {α : Type} (p : Option α → α → Bool) : Option α → List α → Bool
  | _, [] => true
  | o, x :: l => p o x && chk p (some x) l

/- impl.between -/
def c40 : SCode := (.seq (.reg [⟨(some 6), .assign (.const (.bool false)), none⟩])
(.seq (.reg [⟨(some 7), .move (.tmp 0), none⟩,
    ⟨(some 8), .move (.tmp 1), none⟩,
    ⟨(some 9), .binOp .geq 2 (.tmp 7) (.tmp 8) 2, none⟩,
    ⟨(some 10), .move (.tmp 9), none⟩,
    ⟨(some 11), .move (.tmp 0), (some (10, true))⟩,
    ⟨(some 12), .move (.tmp 2), (some (10, true))⟩,
    ⟨(some 13), .binOp .leq 2 (.tmp 11) (.tmp 12) 2, (some (10, true))⟩,
    ⟨(some 14), .pick (.tmp 10) (.tmp 13) (.const (.bool false)), none⟩,
    ⟨(some 6), .assign (.tmp 14), none⟩])
 .ret))
theorem s40 : slimF Try.f40 = some (c40, [.t 6], 15) := by kernel_rfl
theorem o40 : okF [] Try.f40 = true := by kernel_rfl
noncomputable def g40 : Fsem := sem3 (En.int .i64) (En.int .i64) (En.int .i64) (fun n0 lo hi => True) (fun n n0 lo hi => .bool (btw n0 lo hi))
@[go_sem] theorem g40_eq {n : Nat} {n0 : Int} {lo : Int} {hi : Int} : g40 n [.int .i64 n0, .int .i64 lo, .int .i64 hi] = ⟨True, .bool (btw n0 lo hi)⟩ := sem3_eq (τ := 0) (τ' := 0) (τ'' := 0) (E := (En.int .i64)) (F := (En.int .i64)) (G := (En.int .i64))
theorem p40 : Pure Try.prog 40 g40 := by
  refine sem3_pure fun τ τ' τ'' n0 lo hi n h2 hpre => ?_
  have hT : Table Try.prog [] := .nil
  have hn0 : n ≠ 0 := by omega
  refine SatP.of_body hT hm Try.func40 s40 o40 h2 (by simp) ?_
  simp (config := {contextual := true, maxSteps := 2000000, implicitDefEqProofs := false}) [c40, go_sem, btw]
/- spec.l00In -/
def c73 : SCode := (.seq (.reg [⟨(some 6), .assign (.const (.bool false)), none⟩])
(.seq (.reg [⟨(some 7), .move (.tmp 0), none⟩,
    ⟨(some 8), .move (.tmp 1), none⟩,
    ⟨(some 9), .binOp .geq 2 (.tmp 7) (.tmp 8) 2, none⟩,
    ⟨(some 10), .move (.tmp 9), none⟩,
    ⟨(some 11), .move (.tmp 0), (some (10, true))⟩,
    ⟨(some 12), .move (.tmp 2), (some (10, true))⟩,
    ⟨(some 13), .binOp .leq 2 (.tmp 11) (.tmp 12) 2, (some (10, true))⟩,
    ⟨(some 14), .pick (.tmp 10) (.tmp 13) (.const (.bool false)), none⟩,
    ⟨(some 6), .assign (.tmp 14), none⟩])
 .ret))
theorem s73 : slimF Try.f73 = some (c73, [.t 6], 15) := by kernel_rfl
theorem o73 : okF [] Try.f73 = true := by kernel_rfl
noncomputable def g73 : Fsem := sem3 (En.int .i64) (En.int .i64) (En.int .i64) (fun n0 lo hi => True) (fun n n0 lo hi => .bool (btw n0 lo hi))
@[go_sem] theorem g73_eq {n : Nat} {n0 : Int} {lo : Int} {hi : Int} : g73 n [.int .i64 n0, .int .i64 lo, .int .i64 hi] = ⟨True, .bool (btw n0 lo hi)⟩ := sem3_eq (τ := 0) (τ' := 0) (τ'' := 0) (E := (En.int .i64)) (F := (En.int .i64)) (G := (En.int .i64))
theorem p73 : Pure Try.prog 73 g73 := by
  refine sem3_pure fun τ τ' τ'' n0 lo hi n h2 hpre => ?_
  have hT : Table Try.prog [] := .nil
  have hn0 : n ≠ 0 := by omega
  refine SatP.of_body hT hm Try.func73 s73 o73 h2 (by simp) ?_
  simp (config := {contextual := true, maxSteps := 2000000, implicitDefEqProofs := false}) [c73, go_sem, btw]
/- impl.isNode -/
def c120 : SCode := (.seq (.reg [⟨(some 2), .assign (.const (.bool false)), none⟩])
(.seq (.reg [⟨(some 3), .move (.tmp 0), none⟩,
    ⟨(some 4), .call ⟨(.value (.func 40)), #[(.tmp 3), (.const (.int .i64 0)), (.const (.int .i64 15))], #[2, 2, 2]⟩, none⟩,
    ⟨(some 2), .assign (.tmp 4), none⟩])
 .ret))
theorem s120 : slimF Try.f120 = some (c120, [.t 2], 5) := by kernel_rfl
theorem o120 : okF [(40, g40)] Try.f120 = true := by kernel_rfl
noncomputable def g120 : Fsem := sem1 (En.int .i64) (fun n0 => True) (fun n n0 => .bool (btw n0 0 15))
@[go_sem] theorem g120_eq {n : Nat} {n0 : Int} : g120 n [.int .i64 n0] = ⟨True, .bool (btw n0 0 15)⟩ := sem1_eq (τ := 0) (E := (En.int .i64))
theorem p120 : Pure Try.prog 120 g120 := by
  refine sem1_pure fun τ n0 n h2 hpre => ?_
  have hT : Table Try.prog [(40, g40)] := (.cons p40 .nil)
  have hn0 : n ≠ 0 := by omega
  refine SatP.of_body hT hm Try.func120 s120 o120 h2 (by simp) ?_
  simp (config := {contextual := true, maxSteps := 2000000, implicitDefEqProofs := false}) [c120, go_sem]
/- impl.CodeOk -/
def c122 : SCode := (.seq (.reg [⟨(some 1), .box 45 (.tmp 0), none⟩,
   ⟨(some 2), .assign (.const (.bool false)), none⟩])
(.seq (.reg [⟨(some 3), .fieldAddr 45 (.tmp 1) 0, none⟩,
    ⟨(some 4), .load 2 (.tmp 3), none⟩,
    ⟨(some 5), .call ⟨(.value (.func 40)), #[(.tmp 4), (.const (.int .i64 1)), (.const (.int .i64 4))], #[2, 2, 2]⟩, none⟩,
    ⟨(some 6), .move (.tmp 5), none⟩,
    ⟨(some 7), .fieldAddr 45 (.tmp 1) 1, (some (6, true))⟩,
    ⟨(some 8), .load 2 (.tmp 7), (some (6, true))⟩,
    ⟨(some 9), .call ⟨(.value (.func 40)), #[(.tmp 8), (.const (.int .i64 0)), (.const (.int .i64 3))], #[2, 2, 2]⟩, (some (6, true))⟩,
    ⟨(some 10), .pick (.tmp 6) (.tmp 9) (.const (.bool false)), none⟩,
    ⟨(some 2), .assign (.tmp 10), none⟩])
 .ret))
theorem s122 : slimF Try.f122 = some (c122, [.t 2], 11) := by kernel_rfl
theorem o122 : okF [(40, g40)] Try.f122 = true := by kernel_rfl
noncomputable def g122 : Fsem := sem1 enCode (fun c => True) (fun n c => .bool (btw c.k 1 4 && btw c.m 0 3))
@[go_sem] theorem g122_eq {n : Nat} {c : Code} : g122 n [.agg [.int .i64 c.k, .int .i64 c.m]] = ⟨True, .bool (btw c.k 1 4 && btw c.m 0 3)⟩ := sem1_eq (τ := 0) (E := enCode)
theorem p122 : Pure Try.prog 122 g122 := by
  refine sem1_pure fun τ c n h2 hpre => ?_
  have hT : Table Try.prog [(40, g40)] := (.cons p40 .nil)
  have hn0 : n ≠ 0 := by omega
  refine SatP.of_body hT hm Try.func122 s122 o122 h2 (by simp) ?_
  simp (config := {contextual := true, maxSteps := 2000000, implicitDefEqProofs := false}) [c122, go_sem]
/- spec.l04Code -/
def c135 : SCode := (.seq (.reg [⟨(some 1), .box 45 (.tmp 0), none⟩,
   ⟨(some 2), .assign (.const (.bool false)), none⟩])
(.seq (.reg [⟨(some 3), .fieldAddr 45 (.tmp 1) 0, none⟩,
    ⟨(some 4), .load 2 (.tmp 3), none⟩,
    ⟨(some 5), .call ⟨(.value (.func 73)), #[(.tmp 4), (.const (.int .i64 1)), (.const (.int .i64 4))], #[2, 2, 2]⟩, none⟩,
    ⟨(some 6), .move (.tmp 5), none⟩,
    ⟨(some 7), .fieldAddr 45 (.tmp 1) 1, (some (6, true))⟩,
    ⟨(some 8), .load 2 (.tmp 7), (some (6, true))⟩,
    ⟨(some 9), .call ⟨(.value (.func 73)), #[(.tmp 8), (.const (.int .i64 0)), (.const (.int .i64 3))], #[2, 2, 2]⟩, (some (6, true))⟩,
    ⟨(some 10), .pick (.tmp 6) (.tmp 9) (.const (.bool false)), none⟩,
    ⟨(some 2), .assign (.tmp 10), none⟩])
 .ret))
theorem s135 : slimF Try.f135 = some (c135, [.t 2], 11) := by kernel_rfl
theorem o135 : okF [(73, g73)] Try.f135 = true := by kernel_rfl
noncomputable def g135 : Fsem := sem1 enCode (fun c => True) (fun n c => .bool (btw c.k 1 4 && btw c.m 0 3))
@[go_sem] theorem g135_eq {n : Nat} {c : Code} : g135 n [.agg [.int .i64 c.k, .int .i64 c.m]] = ⟨True, .bool (btw c.k 1 4 && btw c.m 0 3)⟩ := sem1_eq (τ := 0) (E := enCode)
theorem p135 : Pure Try.prog 135 g135 := by
  refine sem1_pure fun τ c n h2 hpre => ?_
  have hT : Table Try.prog [(73, g73)] := (.cons p73 .nil)
  have hn0 : n ≠ 0 := by omega
  refine SatP.of_body hT hm Try.func135 s135 o135 h2 (by simp) ?_
  simp (config := {contextual := true, maxSteps := 2000000, implicitDefEqProofs := false}) [c135, go_sem]
/- (impl.Tree).device$1 -/
def c128 : SCode := (.seq (.reg [⟨(some 2), .box 125 (.tmp 0), none⟩,
   ⟨(some 3), .assign (.const (.bool false)), none⟩])
(.seq (.reg [⟨(some 4), .fieldAddr 125 (.tmp 2) 0, none⟩,
    ⟨(some 5), .load 2 (.tmp 4), none⟩,
    ⟨(some 6), .load 2 (.tmp 1), none⟩,
    ⟨(some 7), .binOp .eql 2 (.tmp 5) (.tmp 6) 2, none⟩,
    ⟨(some 3), .assign (.tmp 7), none⟩])
 .ret))
theorem s128 : slimF Try.f128 = some (c128, [.t 3], 8) := by kernel_rfl
theorem o128 : okF [] Try.f128 = true := by kernel_rfl
noncomputable def g128 : Fsem := semOf (fun i : Nat × Nat × Dev × Int => [enDev.av i.1 i.2.2.1, .dptr i.2.1 [.int .i64 i.2.2.2]]) (fun _ => True) (fun _ i => .bool (decide (i.2.2.1.id = i.2.2.2)))
@[go_sem] theorem g128_eq {n τ' : Nat} {x : Dev} {i : Int} : g128 n [.agg [.int .i64 x.id, .int .i64 x.weight], .dptr τ' [.int .i64 i]] = ⟨True, .bool (decide (x.id = i))⟩ :=
  semOf_eq (0, τ', x, i) rfl fun ⟨_, _, y, j⟩ h => by
    obtain ⟨h1, h⟩ := cons_inj h
    obtain ⟨h2, _⟩ := cons_inj h
    have h3 : y = x := enDev.inj h1
    simp at h2
    simp [h3, h2.2]
theorem p128 : Pure Try.prog 128 g128 := by
  refine semOf_pure fun ⟨τ, τ', x, i⟩ n h2 _ => ?_
  refine SatP.of_body Table.nil hm Try.func128 s128 o128 h2 (by simp) ?_
  simp (config := {contextual := true}) [c128, go_sem]
/- slices.IndexFunc[[]impl.Device,impl.Device] -/
theorem s127 : slimF Try.f127 = some (idxC 33 125, [.t 4], 19) := by kernel_rfl
theorem o127_128 : okF [(128, g128)] Try.f127 = true := by kernel_rfl
noncomputable def g127_128 : Fsem := idxSem (ι := Nat × Int) enDev 128 (fun i => [.dptr i.1 [.int .i64 i.2]]) (fun i x => decide (x.id = i.2))
@[go_sem] theorem g127_128_eq {n τ τ' : Nat} {l : List Dev} {i : Int} : g127_128 n [.sl τ 2 (l.map (enDev.av τ)), .fn 128 [.dptr τ' [.int .i64 i]]] = ⟨True, .int .i64 (idx (fun x => decide (x.id = i)) l)⟩ :=
  idxSem_eq (E := enDev) (caps := fun i : Nat × Int => [.dptr i.1 [.int .i64 i.2]]) (p := fun i x => decide (x.id = i.2)) (τ', i) (fun j h => by first | (simp at h; simp [h]; done) | (simp only [List.cons.injEq, AV.dptr.injEq, and_true] at h; skip))
theorem p127_128 : Pure Try.prog 127 g127_128 := idxSem_pure hm Try.func127 s127 o127_128 (by omega) ty_33 fit_125 p128 (fun i c hc => by simp at hc; subst hc; rfl) (fun i n τ x => by simp [go_sem])
noncomputable def g127 : Fsem := dsp [(128, g127_128)]
theorem p127 : Pure Try.prog 127 g127 := dsp_pure (by simp only [List.mem_cons, List.not_mem_nil, or_false, forall_eq_or_imp, forall_eq]; exact p127_128)
@[go_sem] theorem g127_dsp : g127 = dsp [(128, g127_128)] := rfl
/- (impl.Tree).device -/
def c89 : SCode := (.seq (.reg [⟨(some 2), .box 36 (.tmp 0), none⟩,
   ⟨(some 3), .box 2 (.tmp 1), none⟩,
   ⟨(some 4), .assign (.const (.int .i64 0)), none⟩])
(.seq (.reg [⟨(some 5), .fieldAddr 36 (.tmp 2) 0, none⟩,
    ⟨(some 6), .load 33 (.tmp 5), none⟩,
    ⟨(some 7), .makeFunc (Fn.func 128) #[] #[(.tmp 3)], none⟩,
    ⟨(some 8), .call ⟨(.value (.func 127)), #[(.tmp 6), (.tmp 7)], #[33, 151]⟩, none⟩,
    ⟨(some 4), .assign (.tmp 8), none⟩])
 .ret))
theorem s89 : slimF Try.f89 = some (c89, [.t 4], 9) := by kernel_rfl
theorem o89 : okF [(127, g127)] Try.f89 = true := by kernel_rfl
noncomputable def g89 : Fsem := sem2 enTree (En.int .i64) (fun t id => True) (fun n t id => .int .i64 (devI t id))
@[go_sem] theorem g89_eq {n τ : Nat} {t : Tree} {id : Int} : g89 n [.agg [.sl τ 2 (t.devices.map (enDev.av τ)), .sl τ 3 (t.buckets.map (enBkt.av τ))], .int .i64 id] = ⟨True, .int .i64 (devI t id)⟩ := sem2_eq (τ' := 0) (E := enTree) (F := (En.int .i64))
theorem p89 : Pure Try.prog 89 g89 := by
  refine sem2_pure fun τ τ' t id n h2 hpre => ?_
  have hT : Table Try.prog [(127, g127)] := (.cons p127 .nil)
  have hn0 : n ≠ 0 := by omega
  refine SatP.of_body hT hm Try.func89 s89 o89 h2 (by simp) ?_
  simp (config := {contextual := true, maxSteps := 2000000, implicitDefEqProofs := false}) [c89, go_sem, devI]
/- (impl.Tree).bucket$1 -/
def c139 : SCode := (.seq (.reg [⟨(some 2), .box 115 (.tmp 0), none⟩,
   ⟨(some 3), .assign (.const (.bool false)), none⟩])
(.seq (.reg [⟨(some 4), .fieldAddr 115 (.tmp 2) 0, none⟩,
    ⟨(some 5), .load 2 (.tmp 4), none⟩,
    ⟨(some 6), .load 2 (.tmp 1), none⟩,
    ⟨(some 7), .binOp .eql 2 (.tmp 5) (.tmp 6) 2, none⟩,
    ⟨(some 3), .assign (.tmp 7), none⟩])
 .ret))
theorem s139 : slimF Try.f139 = some (c139, [.t 3], 8) := by kernel_rfl
theorem o139 : okF [] Try.f139 = true := by kernel_rfl
noncomputable def g139 : Fsem := semOf (fun i : Nat × Nat × Bkt × Int => [enBkt.av i.1 i.2.2.1, .dptr i.2.1 [.int .i64 i.2.2.2]]) (fun _ => True) (fun _ i => .bool (decide (i.2.2.1.id = i.2.2.2)))
@[go_sem] theorem g139_eq {n τ τ' : Nat} {x : Bkt} {i : Int} : g139 n [.agg [.int .i64 x.id, .int .i64 x.kind, .sl τ 1 (x.items.map (AV.int .i64))], .dptr τ' [.int .i64 i]] = ⟨True, .bool (decide (x.id = i))⟩ :=
  semOf_eq (τ, τ', x, i) rfl fun ⟨_, _, y, j⟩ h => by
    obtain ⟨h1, h⟩ := cons_inj h
    obtain ⟨h2, _⟩ := cons_inj h
    have h3 : y = x := enBkt.inj h1
    simp at h2
    simp [h3, h2.2]
theorem p139 : Pure Try.prog 139 g139 := by
  refine semOf_pure fun ⟨τ, τ', x, i⟩ n h2 _ => ?_
  refine SatP.of_body Table.nil hm Try.func139 s139 o139 h2 (by simp) ?_
  simp (config := {contextual := true}) [c139, go_sem]
/- slices.IndexFunc[[]impl.Bucket,impl.Bucket] -/
theorem s138 : slimF Try.f138 = some (idxC 34 115, [.t 4], 19) := by kernel_rfl
theorem o138_139 : okF [(139, g139)] Try.f138 = true := by kernel_rfl
noncomputable def g138_139 : Fsem := idxSem (ι := Nat × Int) enBkt 139 (fun i => [.dptr i.1 [.int .i64 i.2]]) (fun i x => decide (x.id = i.2))
@[go_sem] theorem g138_139_eq {n τ τ' : Nat} {l : List Bkt} {i : Int} : g138_139 n [.sl τ 3 (l.map (enBkt.av τ)), .fn 139 [.dptr τ' [.int .i64 i]]] = ⟨True, .int .i64 (idx (fun x => decide (x.id = i)) l)⟩ :=
  idxSem_eq (E := enBkt) (caps := fun i : Nat × Int => [.dptr i.1 [.int .i64 i.2]]) (p := fun i x => decide (x.id = i.2)) (τ', i) (fun j h => by first | (simp at h; simp [h]; done) | (simp only [List.cons.injEq, AV.dptr.injEq, and_true] at h; skip))
theorem p138_139 : Pure Try.prog 138 g138_139 := idxSem_pure hm Try.func138 s138 o138_139 (by omega) ty_34 fit_115 p139 (fun i c hc => by simp at hc; subst hc; rfl) (fun i n τ x => by simp [go_sem])
noncomputable def g138 : Fsem := dsp [(139, g138_139)]
theorem p138 : Pure Try.prog 138 g138 := dsp_pure (by simp only [List.mem_cons, List.not_mem_nil, or_false, forall_eq_or_imp, forall_eq]; exact p138_139)
@[go_sem] theorem g138_dsp : g138 = dsp [(139, g138_139)] := rfl
/- (impl.Tree).bucket -/
def c136 : SCode := (.seq (.reg [⟨(some 2), .box 36 (.tmp 0), none⟩,
   ⟨(some 3), .box 2 (.tmp 1), none⟩,
   ⟨(some 4), .assign (.const (.pointer none)), none⟩])
(.seq (.reg [⟨(some 6), .fieldAddr 36 (.tmp 2) 1, none⟩,
    ⟨(some 7), .load 34 (.tmp 6), none⟩,
    ⟨(some 8), .makeFunc (Fn.func 139) #[] #[(.tmp 3)], none⟩,
    ⟨(some 9), .call ⟨(.value (.func 138)), #[(.tmp 7), (.tmp 8)], #[34, 116]⟩, none⟩,
    ⟨(some 5), .assign (.tmp 9), none⟩])
 (.seq (.seq (.reg [⟨(some 10), .move (.tmp 5), none⟩,
      ⟨(some 11), .binOp .lss 3 (.tmp 10) (.const (.int .i64 0)) 3, none⟩])
   (.cond (.tmp 11) (.seq (.reg [⟨(some 4), .assign (.const (.pointer none)), none⟩])
     .ret)
    .skip))
  (.seq (.reg [⟨(some 12), .fieldAddr 36 (.tmp 2) 1, none⟩,
      ⟨(some 13), .load 34 (.tmp 12), none⟩,
      ⟨(some 14), .move (.tmp 5), none⟩,
      ⟨(some 15), .indexAddr 34 (.tmp 13) (.tmp 14), none⟩,
      ⟨(some 4), .assign (.tmp 15), none⟩])
   .ret))))
theorem s136 : slimF Try.f136 = some (c136, [.t 4], 16) := by kernel_rfl
theorem o136 : okF [(138, g138)] Try.f136 = true := by kernel_rfl
noncomputable def g136 : Fsem := semT2 enTree (En.int .i64) (fun τ t id => τ ≠ 0) (fun n τ t id => match bktO t id with | some b => .dptr τ [.int .i64 b.id, .int .i64 b.kind, .sl τ 1 (b.items.map (AV.int .i64))] | none => .nilp)
@[go_sem] theorem g136_eq {n τ : Nat} {t : Tree} {id : Int} : g136 n [.agg [.sl τ 2 (t.devices.map (enDev.av τ)), .sl τ 3 (t.buckets.map (enBkt.av τ))], .int .i64 id] = ⟨τ ≠ 0, match bktO t id with | some b => .dptr τ [.int .i64 b.id, .int .i64 b.kind, .sl τ 1 (b.items.map (AV.int .i64))] | none => .nilp⟩ := semT2_eq (τ' := 0) (E := enTree) (F := (En.int .i64)) (seen_Tree)
theorem p136 : Pure Try.prog 136 g136 := by
  refine semT2_pure fun τ τ' t id n h2 hpre => ?_
  have hT : Table Try.prog [(138, g138)] := (.cons p138 .nil)
  have hn0 : n ≠ 0 := by omega
  refine SatP.of_body hT hm Try.func136 s136 o136 h2 (by simp) ?_
  have hp : τ ≠ 0 := hpre
  rcases idx_spec (fun b : Bkt => decide (b.id = id)) t.buckets with ⟨h1, hb⟩ | ⟨a, x, b, hl, h2, h3, hb⟩
  · simp [c136, go_sem, h1, bktO, hb]
  · have h4 : (0 : Int) ≤ a.length := by omega
    have h5 : ¬ (a.length : Int) < 0 := by omega
    have h6 : (a.length : Int) < (a.length : Int) + ((b.length : Int) + 1) := by omega
    simp only [bktO, hb]
    simp [c136, go_sem, h3]
    simp [go_sem, hl, h4, h5, h6, hp]
/- (impl.Tree).kindOf -/
def c121 : SCode := (.seq (.reg [⟨(some 2), .box 36 (.tmp 0), none⟩,
   ⟨(some 4), .assign (.const (.int .i64 0)), none⟩])
(.seq (.seq (.reg [⟨(some 6), .load 36 (.tmp 2), none⟩,
     ⟨(some 7), .move (.tmp 1), none⟩,
     ⟨(some 8), .call ⟨(.value (.func 89)), #[(.tmp 6), (.tmp 7)], #[36, 2]⟩, none⟩,
     ⟨(some 9), .binOp .geq 3 (.tmp 8) (.const (.int .i64 0)) 3, none⟩])
  (.cond (.tmp 9) (.seq (.reg [⟨(some 4), .assign (.const (.int .i64 0)), none⟩])
    .ret)
   .skip))
 (.seq (.seq (.reg [⟨(some 10), .load 36 (.tmp 2), none⟩,
      ⟨(some 11), .move (.tmp 1), none⟩,
      ⟨(some 12), .call ⟨(.value (.func 136)), #[(.tmp 10), (.tmp 11)], #[36, 2]⟩, none⟩,
      ⟨(some 5), .assign (.tmp 12), none⟩])
   (.seq (.reg [⟨(some 13), .move (.tmp 5), none⟩,
       ⟨(some 14), .binOp .neq 156 (.tmp 13) (.const (.pointer none)) 156, none⟩])
    (.cond (.tmp 14) (.seq (.reg [⟨(some 15), .move (.tmp 5), none⟩,
         ⟨(some 16), .nilCheck (.tmp 15), none⟩,
         ⟨(some 17), .fieldAddr 115 (.tmp 16) 1, none⟩,
         ⟨(some 18), .load 2 (.tmp 17), none⟩,
         ⟨(some 4), .assign (.tmp 18), none⟩])
      .ret)
     .skip)))
  (.seq (.reg [⟨(some 4), .assign (.const (.int .i64 (-1))), none⟩])
   .ret))))
theorem s121 : slimF Try.f121 = some (c121, [.t 4], 19) := by kernel_rfl
theorem o121 : okF [(89, g89), (136, g136)] Try.f121 = true := by kernel_rfl
noncomputable def g121 : Fsem := semT2 enTree (En.int .i64) (fun τ t id => τ ≠ 0) (fun n τ t id => .int .i64 (kindOf t id))
@[go_sem] theorem g121_eq {n τ : Nat} {t : Tree} {id : Int} : g121 n [.agg [.sl τ 2 (t.devices.map (enDev.av τ)), .sl τ 3 (t.buckets.map (enBkt.av τ))], .int .i64 id] = ⟨τ ≠ 0, .int .i64 (kindOf t id)⟩ := semT2_eq (τ' := 0) (E := enTree) (F := (En.int .i64)) (seen_Tree)
theorem p121 : Pure Try.prog 121 g121 := by
  refine semT2_pure fun τ τ' t id n h2 hpre => ?_
  have hT : Table Try.prog [(89, g89), (136, g136)] := (.cons p89 (.cons p136 .nil))
  have hn0 : n ≠ 0 := by omega
  refine SatP.of_body hT hm Try.func121 s121 o121 h2 (by simp) ?_
  have hp : τ ≠ 0 := hpre
  cases hb : bktO t id with
  | none => simp (config := {contextual := true, maxSteps := 2000000, implicitDefEqProofs := false}) [c121, go_sem, hb, hp, kindOf]
  | some b =>
    simp (config := {contextual := true, maxSteps := 2000000, implicitDefEqProofs := false}) [c121, go_sem, hb, hp, kindOf]
    grind
/- spec.l06Device -/
def c134 : SCode := (.seq (.reg [⟨(some 2), .box 36 (.tmp 0), none⟩,
   ⟨(some 4), .assign (.const (.int .i64 0)), none⟩])
(.seq (.seq (.reg [⟨(some 5), .assign (.const (.int .i64 0)), none⟩])
  (.block 0 (.loop (.seq (.seq (.reg [⟨(some 6), .move (.tmp 5), none⟩,
         ⟨(some 7), .fieldAddr 36 (.tmp 2) 0, none⟩,
         ⟨(some 8), .load 33 (.tmp 7), none⟩,
         ⟨(some 9), .call ⟨(.builtin .len), #[(.tmp 8)], #[33]⟩, none⟩,
         ⟨(some 10), .binOp .lss 3 (.tmp 6) (.tmp 9) 3, none⟩])
      (.cond (.tmp 10) .skip
       (.exit 0)))
     (.seq (.block 1 (.seq (.reg [⟨(some 13), .fieldAddr 36 (.tmp 2) 0, none⟩,
           ⟨(some 14), .load 33 (.tmp 13), none⟩,
           ⟨(some 15), .move (.tmp 5), none⟩,
           ⟨(some 16), .indexAddr 33 (.tmp 14) (.tmp 15), none⟩,
           ⟨(some 17), .fieldAddr 125 (.tmp 16) 0, none⟩,
           ⟨(some 18), .load 2 (.tmp 17), none⟩,
           ⟨(some 19), .move (.tmp 1), none⟩,
           ⟨(some 20), .binOp .eql 2 (.tmp 18) (.tmp 19) 2, none⟩])
        (.cond (.tmp 20) (.seq (.reg [⟨(some 21), .move (.tmp 5), none⟩,
             ⟨(some 4), .assign (.tmp 21), none⟩])
          .ret)
         .skip)))
      (.reg [⟨(some 11), .move (.tmp 5), none⟩,
         ⟨(some 12), .binOp .add 3 (.tmp 11) (.const (.int .i64 1)) 3, none⟩,
         ⟨(some 5), .assign (.tmp 12), none⟩]))))))
 (.seq (.reg [⟨(some 4), .assign (.const (.int .i64 (-1))), none⟩])
  .ret)))
theorem s134 : slimF Try.f134 = some (c134, [.t 4], 22) := by kernel_rfl
theorem o134 : okF [] Try.f134 = true := by kernel_rfl
noncomputable def g134 : Fsem := sem2 enTree (En.int .i64) (fun t id => True) (fun n t id => .int .i64 (devI t id))
@[go_sem] theorem g134_eq {n τ : Nat} {t : Tree} {id : Int} : g134 n [.agg [.sl τ 2 (t.devices.map (enDev.av τ)), .sl τ 3 (t.buckets.map (enBkt.av τ))], .int .i64 id] = ⟨True, .int .i64 (devI t id)⟩ := sem2_eq (τ' := 0) (E := enTree) (F := (En.int .i64))
theorem p134 : Pure Try.prog 134 g134 := by
  refine sem2_pure fun τ τ' t id n h2 hpre => ?_
  have hT : Table Try.prog [] := .nil
  have hn0 : n ≠ 0 := by omega
  refine SatP.of_body hT hm Try.func134 s134 o134 h2 (by simp) ?_
  simp (config := {contextual := true, maxSteps := 2000000, implicitDefEqProofs := false}) [c134, go_sem]
  refine VW_listK hT h2 hm t.devices [1, 2] (fun pre post (u0 : Unit) => [(5, .int .i64 pre.length)]) (fun pre post (u0 : Unit) => idxF (fun d : Dev => decide (d.id = id)) post pre.length = devI t id) () ?_ ?_ ?_ ?_
  · rfl
  · simp [SubI, go_sem]
  · rintro u0 hR
    simp (config := {contextual := true, maxSteps := 2000000, implicitDefEqProofs := false}) [go_sem]
    simp [idxF] at hR; grind
  · rintro pre x post u0 hl hlen hR
    have hw : pre.length + (post.length + 1) ≤ maxLen → IntKind.i64.wrap ((pre.length : Int) + 1) = (pre.length : Int) + 1 := fun h => wrap_next h (by omega)
    have h3 : (0 : Int) ≤ pre.length := by omega
    have h4 : (pre.length : Int) < (pre.length : Int) + ((post.length : Int) + 1) := by omega
    have h5 : ¬ (pre.length : Int) + ((post.length : Int) + 1) ≤ (pre.length : Int) := by omega
    simp only [idxF] at hR
    by_cases hp : x.id = id
    · simp [hp] at hR
      simp (config := {contextual := true, maxSteps := 2000000, implicitDefEqProofs := false}) [go_sem, hw, h3, h4, h5, ← hl, SubI, hp] <;> grind
    · simp [hp] at hR
      simp (config := {contextual := true, maxSteps := 2000000, implicitDefEqProofs := false}) [go_sem, hw, h3, h4, h5, ← hl, SubI, hp] <;> grind
/- spec.l06Bucket -/
def c137 : SCode := (.seq (.reg [⟨(some 2), .box 36 (.tmp 0), none⟩,
   ⟨(some 4), .assign (.const (.int .i64 0)), none⟩])
(.seq (.seq (.reg [⟨(some 5), .assign (.const (.int .i64 0)), none⟩])
  (.block 0 (.loop (.seq (.seq (.reg [⟨(some 6), .move (.tmp 5), none⟩,
         ⟨(some 7), .fieldAddr 36 (.tmp 2) 1, none⟩,
         ⟨(some 8), .load 34 (.tmp 7), none⟩,
         ⟨(some 9), .call ⟨(.builtin .len), #[(.tmp 8)], #[34]⟩, none⟩,
         ⟨(some 10), .binOp .lss 3 (.tmp 6) (.tmp 9) 3, none⟩])
      (.cond (.tmp 10) .skip
       (.exit 0)))
     (.seq (.block 1 (.seq (.reg [⟨(some 13), .fieldAddr 36 (.tmp 2) 1, none⟩,
           ⟨(some 14), .load 34 (.tmp 13), none⟩,
           ⟨(some 15), .move (.tmp 5), none⟩,
           ⟨(some 16), .indexAddr 34 (.tmp 14) (.tmp 15), none⟩,
           ⟨(some 17), .fieldAddr 115 (.tmp 16) 0, none⟩,
           ⟨(some 18), .load 2 (.tmp 17), none⟩,
           ⟨(some 19), .move (.tmp 1), none⟩,
           ⟨(some 20), .binOp .eql 2 (.tmp 18) (.tmp 19) 2, none⟩])
        (.cond (.tmp 20) (.seq (.reg [⟨(some 21), .move (.tmp 5), none⟩,
             ⟨(some 4), .assign (.tmp 21), none⟩])
          .ret)
         .skip)))
      (.reg [⟨(some 11), .move (.tmp 5), none⟩,
         ⟨(some 12), .binOp .add 3 (.tmp 11) (.const (.int .i64 1)) 3, none⟩,
         ⟨(some 5), .assign (.tmp 12), none⟩]))))))
 (.seq (.reg [⟨(some 4), .assign (.const (.int .i64 (-1))), none⟩])
  .ret)))
theorem s137 : slimF Try.f137 = some (c137, [.t 4], 22) := by kernel_rfl
theorem o137 : okF [] Try.f137 = true := by kernel_rfl
noncomputable def g137 : Fsem := sem2 enTree (En.int .i64) (fun t id => True) (fun n t id => .int .i64 (bktI t id))
@[go_sem] theorem g137_eq {n τ : Nat} {t : Tree} {id : Int} : g137 n [.agg [.sl τ 2 (t.devices.map (enDev.av τ)), .sl τ 3 (t.buckets.map (enBkt.av τ))], .int .i64 id] = ⟨True, .int .i64 (bktI t id)⟩ := sem2_eq (τ' := 0) (E := enTree) (F := (En.int .i64))
theorem p137 : Pure Try.prog 137 g137 := by
  refine sem2_pure fun τ τ' t id n h2 hpre => ?_
  have hT : Table Try.prog [] := .nil
  have hn0 : n ≠ 0 := by omega
  refine SatP.of_body hT hm Try.func137 s137 o137 h2 (by simp) ?_
  simp (config := {contextual := true, maxSteps := 2000000, implicitDefEqProofs := false}) [c137, go_sem]
  refine VW_listK hT h2 hm t.buckets [1, 2] (fun pre post (u0 : Unit) => [(5, .int .i64 pre.length)]) (fun pre post (u0 : Unit) => idxF (fun d : Bkt => decide (d.id = id)) post pre.length = bktI t id) () ?_ ?_ ?_ ?_
  · rfl
  · simp [SubI, go_sem]
  · rintro u0 hR
    simp (config := {contextual := true, maxSteps := 2000000, implicitDefEqProofs := false}) [go_sem]
    simp [idxF] at hR; grind
  · rintro pre x post u0 hl hlen hR
    have hw : pre.length + (post.length + 1) ≤ maxLen → IntKind.i64.wrap ((pre.length : Int) + 1) = (pre.length : Int) + 1 := fun h => wrap_next h (by omega)
    have h3 : (0 : Int) ≤ pre.length := by omega
    have h4 : (pre.length : Int) < (pre.length : Int) + ((post.length : Int) + 1) := by omega
    have h5 : ¬ (pre.length : Int) + ((post.length : Int) + 1) ≤ (pre.length : Int) := by omega
    simp only [idxF] at hR
    by_cases hp : x.id = id
    · simp [hp] at hR
      simp (config := {contextual := true, maxSteps := 2000000, implicitDefEqProofs := false}) [go_sem, hw, h3, h4, h5, ← hl, SubI, hp] <;> grind
    · simp [hp] at hR
      simp (config := {contextual := true, maxSteps := 2000000, implicitDefEqProofs := false}) [go_sem, hw, h3, h4, h5, ← hl, SubI, hp] <;> grind
/- spec.l11Device -/
def c118 : SCode := (.seq (.reg [⟨(some 2), .box 36 (.tmp 0), none⟩,
   ⟨(some 4), .assign (.const (.int .i64 0)), none⟩])
(.seq (.seq (.reg [⟨(some 5), .assign (.const (.int .i64 0)), none⟩])
  (.block 0 (.loop (.seq (.seq (.reg [⟨(some 6), .move (.tmp 5), none⟩,
         ⟨(some 7), .fieldAddr 36 (.tmp 2) 0, none⟩,
         ⟨(some 8), .load 33 (.tmp 7), none⟩,
         ⟨(some 9), .call ⟨(.builtin .len), #[(.tmp 8)], #[33]⟩, none⟩,
         ⟨(some 10), .binOp .lss 3 (.tmp 6) (.tmp 9) 3, none⟩])
      (.cond (.tmp 10) .skip
       (.exit 0)))
     (.seq (.block 1 (.seq (.reg [⟨(some 13), .fieldAddr 36 (.tmp 2) 0, none⟩,
           ⟨(some 14), .load 33 (.tmp 13), none⟩,
           ⟨(some 15), .move (.tmp 5), none⟩,
           ⟨(some 16), .indexAddr 33 (.tmp 14) (.tmp 15), none⟩,
           ⟨(some 17), .fieldAddr 125 (.tmp 16) 0, none⟩,
           ⟨(some 18), .load 2 (.tmp 17), none⟩,
           ⟨(some 19), .move (.tmp 1), none⟩,
           ⟨(some 20), .binOp .eql 2 (.tmp 18) (.tmp 19) 2, none⟩])
        (.cond (.tmp 20) (.seq (.reg [⟨(some 21), .move (.tmp 5), none⟩,
             ⟨(some 4), .assign (.tmp 21), none⟩])
          .ret)
         .skip)))
      (.reg [⟨(some 11), .move (.tmp 5), none⟩,
         ⟨(some 12), .binOp .add 3 (.tmp 11) (.const (.int .i64 1)) 3, none⟩,
         ⟨(some 5), .assign (.tmp 12), none⟩]))))))
 (.seq (.reg [⟨(some 4), .assign (.const (.int .i64 (-1))), none⟩])
  .ret)))
theorem s118 : slimF Try.f118 = some (c118, [.t 4], 22) := by kernel_rfl
theorem o118 : okF [] Try.f118 = true := by kernel_rfl
noncomputable def g118 : Fsem := sem2 enTree (En.int .i64) (fun t id => True) (fun n t id => .int .i64 (devI t id))
@[go_sem] theorem g118_eq {n τ : Nat} {t : Tree} {id : Int} : g118 n [.agg [.sl τ 2 (t.devices.map (enDev.av τ)), .sl τ 3 (t.buckets.map (enBkt.av τ))], .int .i64 id] = ⟨True, .int .i64 (devI t id)⟩ := sem2_eq (τ' := 0) (E := enTree) (F := (En.int .i64))
theorem p118 : Pure Try.prog 118 g118 := by
  refine sem2_pure fun τ τ' t id n h2 hpre => ?_
  have hT : Table Try.prog [] := .nil
  have hn0 : n ≠ 0 := by omega
  refine SatP.of_body hT hm Try.func118 s118 o118 h2 (by simp) ?_
  simp (config := {contextual := true, maxSteps := 2000000, implicitDefEqProofs := false}) [c118, go_sem]
  refine VW_listK hT h2 hm t.devices [1, 2] (fun pre post (u0 : Unit) => [(5, .int .i64 pre.length)]) (fun pre post (u0 : Unit) => idxF (fun d : Dev => decide (d.id = id)) post pre.length = devI t id) () ?_ ?_ ?_ ?_
  · rfl
  · simp [SubI, go_sem]
  · rintro u0 hR
    simp (config := {contextual := true, maxSteps := 2000000, implicitDefEqProofs := false}) [go_sem]
    simp [idxF] at hR; grind
  · rintro pre x post u0 hl hlen hR
    have hw : pre.length + (post.length + 1) ≤ maxLen → IntKind.i64.wrap ((pre.length : Int) + 1) = (pre.length : Int) + 1 := fun h => wrap_next h (by omega)
    have h3 : (0 : Int) ≤ pre.length := by omega
    have h4 : (pre.length : Int) < (pre.length : Int) + ((post.length : Int) + 1) := by omega
    have h5 : ¬ (pre.length : Int) + ((post.length : Int) + 1) ≤ (pre.length : Int) := by omega
    simp only [idxF] at hR
    by_cases hp : x.id = id
    · simp [hp] at hR
      simp (config := {contextual := true, maxSteps := 2000000, implicitDefEqProofs := false}) [go_sem, hw, h3, h4, h5, ← hl, SubI, hp] <;> grind
    · simp [hp] at hR
      simp (config := {contextual := true, maxSteps := 2000000, implicitDefEqProofs := false}) [go_sem, hw, h3, h4, h5, ← hl, SubI, hp] <;> grind
end Go.Ve
