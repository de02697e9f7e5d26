/- The data of the seat as Lean's structs, and how they lie in memory. No condition. -/
import Derived.Test.YtidfijaobkaalaaE28
import Derived.Test.YtidfijaobkaalaaV0
namespace Go.Ve
open Go.Proofs Go.RowKit
set_option linter.unusedVariables false
set_option linter.unusedSimpArgs false
set_option maxRecDepth 10000
set_option maxHeartbeats 4000000
structure Dev where
  id : Int
  weight : Int
  deriving Inhabited
def toDev (p : Int × Int) : Dev := ⟨p.1, p.2⟩
def ofDev (x : Dev) : Int × Int := (x.id, x.weight)
def enDev : En Dev := En.iso ((En.int .i64).prod (En.int .i64)) ofDev toDev (fun _ => rfl)
@[go_sem] theorem av_Dev {τ : Nat} {x : Dev} : enDev.av τ x = .agg [.int .i64 x.id, .int .i64 x.weight] := rfl
@[go_sem] theorem cs_Dev {τ : Nat} {x : Dev} : enDev.cs τ x = [.int .i64 x.id, .int .i64 x.weight] := rfl
theorem tot_Dev {x : Dev} : enDev.tot x = 0 := by
  show enDev.tot x = _
  simp [enDev, En.iso, En.prod, ofDev, En.int, En.bool, En.str, tot_list, sum_zero]
@[go_sem] theorem w_Dev : enDev.w = 2 := rfl
theorem eq_Dev {x y : Dev} : x = y ↔ x.id = y.id ∧ x.weight = y.weight := by
  cases x; cases y; simp
def okDev (x : Dev) : Prop := (Lit.int .i64 x.id).wf = true ∧ (Lit.int .i64 x.weight).wf = true
theorem fit_133 : FitE Try.prog 133 enDev := ⟨by simp only [go_sem], by simp only [go_sem], fun τ x => by simp [go_sem]⟩
theorem fitz_133 : FitZ Try.prog 133 enDev := ⟨by simp only [go_sem], by simp only [go_sem], by simp only [go_sem], by simp [go_sem], by simp only [go_sem], by simp [go_sem], by simp [go_sem], fun τ x => by simp [go_sem, setEl]⟩
theorem fit_125 : FitE Try.prog 125 enDev := ⟨by simp only [go_sem], by simp only [go_sem], fun τ x => by simp [go_sem]⟩
theorem fitz_125 : FitZ Try.prog 125 enDev := ⟨by simp only [go_sem], by simp only [go_sem], by simp only [go_sem], by simp [go_sem], by simp only [go_sem], by simp [go_sem], by simp [go_sem], fun τ x => by simp [go_sem, setEl]⟩
structure Bkt where
  id : Int
  kind : Int
  items : List Int
  deriving Inhabited
def toBkt (p : Int × Int × (List Int)) : Bkt := ⟨p.1, p.2.1, p.2.2⟩
def ofBkt (x : Bkt) : Int × Int × (List Int) := (x.id, (x.kind, x.items))
def enBkt : En Bkt := En.iso ((En.int .i64).prod ((En.int .i64).prod (En.int .i64).list)) ofBkt toBkt (fun _ => rfl)
@[go_sem] theorem av_Bkt {τ : Nat} {x : Bkt} : enBkt.av τ x = .agg [.int .i64 x.id, .int .i64 x.kind, .sl τ 1 (x.items.map (AV.int .i64))] := rfl
@[go_sem] theorem cs_Bkt {τ : Nat} {x : Bkt} : enBkt.cs τ x = [.int .i64 x.id, .int .i64 x.kind, .sl τ 1 (x.items.map (AV.int .i64))] := rfl
theorem tot_Bkt {x : Bkt} : enBkt.tot x = x.items.length := by
  show enBkt.tot x = _
  simp [enBkt, En.iso, En.prod, ofBkt, En.int, En.bool, En.str, tot_list, sum_zero, sum_flat (E := (En.int .i64)) (fun _ => rfl)]
@[go_sem] theorem w_Bkt : enBkt.w = 3 := rfl
theorem eq_Bkt {x y : Bkt} : x = y ↔ x.id = y.id ∧ x.kind = y.kind ∧ x.items = y.items := by
  cases x; cases y; simp
def okBkt (x : Bkt) : Prop := (Lit.int .i64 x.id).wf = true ∧ (Lit.int .i64 x.kind).wf = true ∧ (x.items.length ≤ maxLen ∧ x.items.length * 8 ≤ 140737488351232 ∧ ∀ y1 ∈ x.items, (Lit.int .i64 y1).wf = true)
theorem fit_129 : FitE Try.prog 129 enBkt := ⟨by simp only [go_sem], by simp only [go_sem], fun τ x => by simp [go_sem]⟩
theorem fitz_129 : FitZ Try.prog 129 enBkt := ⟨by simp only [go_sem], by simp only [go_sem], by simp only [go_sem], by simp [go_sem], by simp only [go_sem], by simp [go_sem], by simp [go_sem], fun τ x => by simp [go_sem, setEl]⟩
theorem fit_115 : FitE Try.prog 115 enBkt := ⟨by simp only [go_sem], by simp only [go_sem], fun τ x => by simp [go_sem]⟩
theorem fitz_115 : FitZ Try.prog 115 enBkt := ⟨by simp only [go_sem], by simp only [go_sem], by simp only [go_sem], by simp [go_sem], by simp only [go_sem], by simp [go_sem], by simp [go_sem], fun τ x => by simp [go_sem, setEl]⟩
structure Tree where
  devices : List Dev
  buckets : List Bkt
  deriving Inhabited
def toTree (p : (List Dev) × (List Bkt)) : Tree := ⟨p.1, p.2⟩
def ofTree (x : Tree) : (List Dev) × (List Bkt) := (x.devices, x.buckets)
def enTree : En Tree := En.iso (enDev.list.prod enBkt.list) ofTree toTree (fun _ => rfl)
@[go_sem] theorem av_Tree {τ : Nat} {x : Tree} : enTree.av τ x = .agg [.sl τ 2 (x.devices.map (enDev.av τ)), .sl τ 3 (x.buckets.map (enBkt.av τ))] := rfl
@[go_sem] theorem cs_Tree {τ : Nat} {x : Tree} : enTree.cs τ x = [.sl τ 2 (x.devices.map (enDev.av τ)), .sl τ 3 (x.buckets.map (enBkt.av τ))] := rfl
theorem tot_Tree {x : Tree} : enTree.tot x = (x.devices.length + (x.buckets.length + (x.buckets.map enBkt.tot).sum)) := by
  show enTree.tot x = _
  simp [enTree, En.iso, En.prod, ofTree, En.int, En.bool, En.str, tot_list, sum_zero, sum_flat (E := enDev) (fun _ => tot_Dev)]
  try omega
@[go_sem] theorem w_Tree : enTree.w = 2 := rfl
theorem eq_Tree {x y : Tree} : x = y ↔ x.devices = y.devices ∧ x.buckets = y.buckets := by
  cases x; cases y; simp
def okTree (x : Tree) : Prop := (x.devices.length ≤ maxLen ∧ x.devices.length * 16 ≤ 140737488351232 ∧ ∀ y1 ∈ x.devices, okDev y1) ∧ (x.buckets.length ≤ maxLen ∧ x.buckets.length * 40 ≤ 140737488351232 ∧ ∀ y1 ∈ x.buckets, okBkt y1)
theorem fit_25 : FitE Try.prog 25 enTree := ⟨by simp only [go_sem], by simp only [go_sem], fun τ x => by simp [go_sem]⟩
theorem fitz_25 : FitZ Try.prog 25 enTree := ⟨by simp only [go_sem], by simp only [go_sem], by simp only [go_sem], by simp [go_sem], by simp only [go_sem], by simp [go_sem], by simp [go_sem], fun τ x => by simp [go_sem, setEl]⟩
theorem fit_36 : FitE Try.prog 36 enTree := ⟨by simp only [go_sem], by simp only [go_sem], fun τ x => by simp [go_sem]⟩
theorem fitz_36 : FitZ Try.prog 36 enTree := ⟨by simp only [go_sem], by simp only [go_sem], by simp only [go_sem], by simp [go_sem], by simp only [go_sem], by simp [go_sem], by simp [go_sem], fun τ x => by simp [go_sem, setEl]⟩
structure Rule where
  id : Int
  root : Int
  kind : Int
  indep : Bool
  deriving Inhabited
def toRule (p : Int × Int × Int × Bool) : Rule := ⟨p.1, p.2.1, p.2.2.1, p.2.2.2⟩
def ofRule (x : Rule) : Int × Int × Int × Bool := (x.id, (x.root, (x.kind, x.indep)))
def enRule : En Rule := En.iso ((En.int .i64).prod ((En.int .i64).prod ((En.int .i64).prod En.bool))) ofRule toRule (fun _ => rfl)
@[go_sem] theorem av_Rule {τ : Nat} {x : Rule} : enRule.av τ x = .agg [.int .i64 x.id, .int .i64 x.root, .int .i64 x.kind, .bool x.indep] := rfl
@[go_sem] theorem cs_Rule {τ : Nat} {x : Rule} : enRule.cs τ x = [.int .i64 x.id, .int .i64 x.root, .int .i64 x.kind, .bool x.indep] := rfl
theorem tot_Rule {x : Rule} : enRule.tot x = 0 := by
  show enRule.tot x = _
  simp [enRule, En.iso, En.prod, ofRule, En.int, En.bool, En.str, tot_list, sum_zero]
@[go_sem] theorem w_Rule : enRule.w = 4 := rfl
theorem eq_Rule {x y : Rule} : x = y ↔ x.id = y.id ∧ x.root = y.root ∧ x.kind = y.kind ∧ x.indep = y.indep := by
  cases x; cases y; simp
def okRule (x : Rule) : Prop := (Lit.int .i64 x.id).wf = true ∧ (Lit.int .i64 x.root).wf = true ∧ (Lit.int .i64 x.kind).wf = true ∧ True
theorem fit_108 : FitE Try.prog 108 enRule := ⟨by simp only [go_sem], by simp only [go_sem], fun τ x => by simp [go_sem]⟩
theorem fitz_108 : FitZ Try.prog 108 enRule := ⟨by simp only [go_sem], by simp only [go_sem], by simp only [go_sem], by simp [go_sem], by simp only [go_sem], by simp [go_sem], by simp [go_sem], fun τ x => by simp [go_sem, setEl]⟩
theorem fit_87 : FitE Try.prog 87 enRule := ⟨by simp only [go_sem], by simp only [go_sem], fun τ x => by simp [go_sem]⟩
theorem fitz_87 : FitZ Try.prog 87 enRule := ⟨by simp only [go_sem], by simp only [go_sem], by simp only [go_sem], by simp [go_sem], by simp only [go_sem], by simp [go_sem], by simp [go_sem], fun τ x => by simp [go_sem, setEl]⟩
structure Code where
  k : Int
  m : Int
  deriving Inhabited
def toCode (p : Int × Int) : Code := ⟨p.1, p.2⟩
def ofCode (x : Code) : Int × Int := (x.k, x.m)
def enCode : En Code := En.iso ((En.int .i64).prod (En.int .i64)) ofCode toCode (fun _ => rfl)
@[go_sem] theorem av_Code {τ : Nat} {x : Code} : enCode.av τ x = .agg [.int .i64 x.k, .int .i64 x.m] := rfl
@[go_sem] theorem cs_Code {τ : Nat} {x : Code} : enCode.cs τ x = [.int .i64 x.k, .int .i64 x.m] := rfl
theorem tot_Code {x : Code} : enCode.tot x = 0 := by
  show enCode.tot x = _
  simp [enCode, En.iso, En.prod, ofCode, En.int, En.bool, En.str, tot_list, sum_zero]
@[go_sem] theorem w_Code : enCode.w = 2 := rfl
theorem eq_Code {x y : Code} : x = y ↔ x.k = y.k ∧ x.m = y.m := by
  cases x; cases y; simp
def okCode (x : Code) : Prop := (Lit.int .i64 x.k).wf = true ∧ (Lit.int .i64 x.m).wf = true
theorem fit_110 : FitE Try.prog 110 enCode := ⟨by simp only [go_sem], by simp only [go_sem], fun τ x => by simp [go_sem]⟩
theorem fitz_110 : FitZ Try.prog 110 enCode := ⟨by simp only [go_sem], by simp only [go_sem], by simp only [go_sem], by simp [go_sem], by simp only [go_sem], by simp [go_sem], by simp [go_sem], fun τ x => by simp [go_sem, setEl]⟩
theorem fit_45 : FitE Try.prog 45 enCode := ⟨by simp only [go_sem], by simp only [go_sem], fun τ x => by simp [go_sem]⟩
theorem fitz_45 : FitZ Try.prog 45 enCode := ⟨by simp only [go_sem], by simp only [go_sem], by simp only [go_sem], by simp [go_sem], by simp only [go_sem], by simp [go_sem], by simp [go_sem], fun τ x => by simp [go_sem, setEl]⟩
structure Pool where
  id : Int
  code : Code
  min : Int
  pgs : Int
  rule : Int
  deriving Inhabited
def toPool (p : Int × Code × Int × Int × Int) : Pool := ⟨p.1, p.2.1, p.2.2.1, p.2.2.2.1, p.2.2.2.2⟩
def ofPool (x : Pool) : Int × Code × Int × Int × Int := (x.id, (x.code, (x.min, (x.pgs, x.rule))))
def enPool : En Pool := En.iso ((En.int .i64).prod (enCode.prod ((En.int .i64).prod ((En.int .i64).prod (En.int .i64))))) ofPool toPool (fun _ => rfl)
@[go_sem] theorem av_Pool {τ : Nat} {x : Pool} : enPool.av τ x = .agg [.int .i64 x.id, .int .i64 x.code.k, .int .i64 x.code.m, .int .i64 x.min, .int .i64 x.pgs, .int .i64 x.rule] := rfl
@[go_sem] theorem cs_Pool {τ : Nat} {x : Pool} : enPool.cs τ x = [.int .i64 x.id, .int .i64 x.code.k, .int .i64 x.code.m, .int .i64 x.min, .int .i64 x.pgs, .int .i64 x.rule] := rfl
theorem tot_Pool {x : Pool} : enPool.tot x = 0 := by
  show enPool.tot x = _
  simp [enPool, En.iso, En.prod, ofPool, En.int, En.bool, En.str, tot_list, sum_zero, tot_Code]
@[go_sem] theorem w_Pool : enPool.w = 6 := rfl
theorem eq_Pool {x y : Pool} : x = y ↔ x.id = y.id ∧ x.code = y.code ∧ x.min = y.min ∧ x.pgs = y.pgs ∧ x.rule = y.rule := by
  cases x; cases y; simp
def okPool (x : Pool) : Prop := (Lit.int .i64 x.id).wf = true ∧ okCode x.code ∧ (Lit.int .i64 x.min).wf = true ∧ (Lit.int .i64 x.pgs).wf = true ∧ (Lit.int .i64 x.rule).wf = true
theorem fit_112 : FitE Try.prog 112 enPool := ⟨by simp only [go_sem], by simp only [go_sem], fun τ x => by simp [go_sem]⟩
theorem fitz_112 : FitZ Try.prog 112 enPool := ⟨by simp only [go_sem], by simp only [go_sem], by simp only [go_sem], by simp [go_sem], by simp only [go_sem], by simp [go_sem], by simp [go_sem], fun τ x => by simp [go_sem, setEl]⟩
theorem fit_47 : FitE Try.prog 47 enPool := ⟨by simp only [go_sem], by simp only [go_sem], fun τ x => by simp [go_sem]⟩
theorem fitz_47 : FitZ Try.prog 47 enPool := ⟨by simp only [go_sem], by simp only [go_sem], by simp only [go_sem], by simp [go_sem], by simp only [go_sem], by simp [go_sem], by simp [go_sem], fun τ x => by simp [go_sem, setEl]⟩
structure Mp where
  epoch : Int
  term : Int
  tree : Tree
  rules : List Rule
  pools : List Pool
  up : List Int
  out : List Int
  deriving Inhabited
def toMp (p : Int × Int × Tree × (List Rule) × (List Pool) × (List Int) × (List Int)) : Mp := ⟨p.1, p.2.1, p.2.2.1, p.2.2.2.1, p.2.2.2.2.1, p.2.2.2.2.2.1, p.2.2.2.2.2.2⟩
def ofMp (x : Mp) : Int × Int × Tree × (List Rule) × (List Pool) × (List Int) × (List Int) := (x.epoch, (x.term, (x.tree, (x.rules, (x.pools, (x.up, x.out))))))
def enMp : En Mp := En.iso ((En.int .i64).prod ((En.int .i64).prod (enTree.prod (enRule.list.prod (enPool.list.prod ((En.int .i64).list.prod (En.int .i64).list)))))) ofMp toMp (fun _ => rfl)
@[go_sem] theorem av_Mp {τ : Nat} {x : Mp} : enMp.av τ x = .agg [.int .i64 x.epoch, .int .i64 x.term, .sl τ 2 (x.tree.devices.map (enDev.av τ)), .sl τ 3 (x.tree.buckets.map (enBkt.av τ)), .sl τ 4 (x.rules.map (enRule.av τ)), .sl τ 6 (x.pools.map (enPool.av τ)), .sl τ 1 (x.up.map (AV.int .i64)), .sl τ 1 (x.out.map (AV.int .i64))] := rfl
@[go_sem] theorem cs_Mp {τ : Nat} {x : Mp} : enMp.cs τ x = [.int .i64 x.epoch, .int .i64 x.term, .sl τ 2 (x.tree.devices.map (enDev.av τ)), .sl τ 3 (x.tree.buckets.map (enBkt.av τ)), .sl τ 4 (x.rules.map (enRule.av τ)), .sl τ 6 (x.pools.map (enPool.av τ)), .sl τ 1 (x.up.map (AV.int .i64)), .sl τ 1 (x.out.map (AV.int .i64))] := rfl
theorem tot_Mp {x : Mp} : enMp.tot x = ((x.tree.devices.length + (x.tree.buckets.length + (x.tree.buckets.map enBkt.tot).sum)) + x.rules.length + x.pools.length + x.up.length + x.out.length) := by
  show enMp.tot x = _
  simp [enMp, En.iso, En.prod, ofMp, En.int, En.bool, En.str, tot_list, sum_zero, sum_flat (E := (En.int .i64)) (fun _ => rfl), sum_flat (E := enDev) (fun _ => tot_Dev), sum_flat (E := enPool) (fun _ => tot_Pool), sum_flat (E := enRule) (fun _ => tot_Rule), tot_Tree]
  try omega
@[go_sem] theorem w_Mp : enMp.w = 8 := rfl
theorem eq_Mp {x y : Mp} : x = y ↔ x.epoch = y.epoch ∧ x.term = y.term ∧ x.tree = y.tree ∧ x.rules = y.rules ∧ x.pools = y.pools ∧ x.up = y.up ∧ x.out = y.out := by
  cases x; cases y; simp
def okMp (x : Mp) : Prop := (Lit.int .i64 x.epoch).wf = true ∧ (Lit.int .i64 x.term).wf = true ∧ okTree x.tree ∧ (x.rules.length ≤ maxLen ∧ x.rules.length * 32 ≤ 140737488351232 ∧ ∀ y1 ∈ x.rules, okRule y1) ∧ (x.pools.length ≤ maxLen ∧ x.pools.length * 48 ≤ 140737488351232 ∧ ∀ y1 ∈ x.pools, okPool y1) ∧ (x.up.length ≤ maxLen ∧ x.up.length * 8 ≤ 140737488351232 ∧ ∀ y1 ∈ x.up, (Lit.int .i64 y1).wf = true) ∧ (x.out.length ≤ maxLen ∧ x.out.length * 8 ≤ 140737488351232 ∧ ∀ y1 ∈ x.out, (Lit.int .i64 y1).wf = true)
theorem fit_30 : FitE Try.prog 30 enMp := ⟨by simp only [go_sem], by simp only [go_sem], fun τ x => by simp [go_sem]⟩
theorem fitz_30 : FitZ Try.prog 30 enMp := ⟨by simp only [go_sem], by simp only [go_sem], by simp only [go_sem], by simp [go_sem], by simp only [go_sem], by simp [go_sem], by simp [go_sem], fun τ x => by simp [go_sem, setEl]⟩
theorem fit_40 : FitE Try.prog 40 enMp := ⟨by simp only [go_sem], by simp only [go_sem], fun τ x => by simp [go_sem]⟩
theorem fitz_40 : FitZ Try.prog 40 enMp := ⟨by simp only [go_sem], by simp only [go_sem], by simp only [go_sem], by simp [go_sem], by simp only [go_sem], by simp [go_sem], by simp [go_sem], fun τ x => by simp [go_sem, setEl]⟩
structure Load where
  node : Int
  count : Int
  deriving Inhabited
def toLoad (p : Int × Int) : Load := ⟨p.1, p.2⟩
def ofLoad (x : Load) : Int × Int := (x.node, x.count)
def enLoad : En Load := En.iso ((En.int .i64).prod (En.int .i64)) ofLoad toLoad (fun _ => rfl)
@[go_sem] theorem av_Load {τ : Nat} {x : Load} : enLoad.av τ x = .agg [.int .i64 x.node, .int .i64 x.count] := rfl
@[go_sem] theorem cs_Load {τ : Nat} {x : Load} : enLoad.cs τ x = [.int .i64 x.node, .int .i64 x.count] := rfl
theorem tot_Load {x : Load} : enLoad.tot x = 0 := by
  show enLoad.tot x = _
  simp [enLoad, En.iso, En.prod, ofLoad, En.int, En.bool, En.str, tot_list, sum_zero]
@[go_sem] theorem w_Load : enLoad.w = 2 := rfl
theorem eq_Load {x y : Load} : x = y ↔ x.node = y.node ∧ x.count = y.count := by
  cases x; cases y; simp
def okLoad (x : Load) : Prop := (Lit.int .i64 x.node).wf = true ∧ (Lit.int .i64 x.count).wf = true
theorem fit_97 : FitE Try.prog 97 enLoad := ⟨by simp only [go_sem], by simp only [go_sem], fun τ x => by simp [go_sem]⟩
theorem fitz_97 : FitZ Try.prog 97 enLoad := ⟨by simp only [go_sem], by simp only [go_sem], by simp only [go_sem], by simp [go_sem], by simp only [go_sem], by simp [go_sem], by simp [go_sem], fun τ x => by simp [go_sem, setEl]⟩
theorem rd_133 : Reads Try.prog 133 (QE enDev okDev) := (reads_struct [(1, QE (En.int .i64) (fun x => (Lit.int .i64 x).wf = true)), (1, QE (En.int .i64) (fun x => (Lit.int .i64 x).wf = true))] Try.underlying133 (FieldsFit.cons rfl (by kernel_rfl) (rd_int Try.underlying2) (FieldsFit.cons rfl (by kernel_rfl) (rd_int Try.underlying2) (FieldsFit.nil (by kernel_rfl))))).imp fun w cs h => qe_iso (ok := fun p : Int × Int => (Lit.int .i64 p.1).wf = true ∧ (Lit.int .i64 p.2).wf = true) (fun _ => rfl) (rowq_cons (E := (En.int .i64)) (ok := fun x => (Lit.int .i64 x).wf = true) (fun cs h => rowq_one (E := (En.int .i64)) (ok := fun x => (Lit.int .i64 x).wf = true) h) h)
theorem rd_129 : Reads Try.prog 129 (QE enBkt okBkt) := (reads_struct [(1, QE (En.int .i64) (fun x => (Lit.int .i64 x).wf = true)), (1, QE (En.int .i64) (fun x => (Lit.int .i64 x).wf = true)), (1, QE (En.int .i64).list (fun x => (x.length ≤ maxLen ∧ x.length * 8 ≤ 140737488351232 ∧ ∀ y1 ∈ x, (Lit.int .i64 y1).wf = true)))] Try.underlying129 (FieldsFit.cons rfl (by kernel_rfl) (rd_int Try.underlying2) (FieldsFit.cons rfl (by kernel_rfl) (rd_int Try.underlying2) (FieldsFit.cons rfl (by kernel_rfl) (rd_list 8 Try.underlying28 (by kernel_rfl) (by kernel_rfl) (rd_int Try.underlying2)) (FieldsFit.nil (by kernel_rfl)))))).imp fun w cs h => qe_iso (ok := fun p : Int × Int × (List Int) => (Lit.int .i64 p.1).wf = true ∧ (Lit.int .i64 p.2.1).wf = true ∧ (p.2.2.length ≤ maxLen ∧ p.2.2.length * 8 ≤ 140737488351232 ∧ ∀ y1 ∈ p.2.2, (Lit.int .i64 y1).wf = true)) (fun _ => rfl) (rowq_cons (E := (En.int .i64)) (ok := fun x => (Lit.int .i64 x).wf = true) (fun cs h => rowq_cons (E := (En.int .i64)) (ok := fun x => (Lit.int .i64 x).wf = true) (fun cs h => rowq_one (E := (En.int .i64).list) (ok := fun x => (x.length ≤ maxLen ∧ x.length * 8 ≤ 140737488351232 ∧ ∀ y1 ∈ x, (Lit.int .i64 y1).wf = true)) h) h) h)
theorem rd_25 : Reads Try.prog 25 (QE enTree okTree) := (reads_struct [(1, QE enDev.list (fun x => (x.length ≤ maxLen ∧ x.length * 16 ≤ 140737488351232 ∧ ∀ y1 ∈ x, okDev y1))), (1, QE enBkt.list (fun x => (x.length ≤ maxLen ∧ x.length * 40 ≤ 140737488351232 ∧ ∀ y1 ∈ x, okBkt y1)))] Try.underlying25 (FieldsFit.cons rfl (by kernel_rfl) (rd_list 16 Try.underlying22 (by kernel_rfl) (by kernel_rfl) rd_133) (FieldsFit.cons rfl (by kernel_rfl) (rd_list 40 Try.underlying23 (by kernel_rfl) (by kernel_rfl) rd_129) (FieldsFit.nil (by kernel_rfl))))).imp fun w cs h => qe_iso (ok := fun p : (List Dev) × (List Bkt) => (p.1.length ≤ maxLen ∧ p.1.length * 16 ≤ 140737488351232 ∧ ∀ y1 ∈ p.1, okDev y1) ∧ (p.2.length ≤ maxLen ∧ p.2.length * 40 ≤ 140737488351232 ∧ ∀ y1 ∈ p.2, okBkt y1)) (fun _ => rfl) (rowq_cons (E := enDev.list) (ok := fun x => (x.length ≤ maxLen ∧ x.length * 16 ≤ 140737488351232 ∧ ∀ y1 ∈ x, okDev y1)) (fun cs h => rowq_one (E := enBkt.list) (ok := fun x => (x.length ≤ maxLen ∧ x.length * 40 ≤ 140737488351232 ∧ ∀ y1 ∈ x, okBkt y1)) h) h)
theorem rd_108 : Reads Try.prog 108 (QE enRule okRule) := (reads_struct [(1, QE (En.int .i64) (fun x => (Lit.int .i64 x).wf = true)), (1, QE (En.int .i64) (fun x => (Lit.int .i64 x).wf = true)), (1, QE (En.int .i64) (fun x => (Lit.int .i64 x).wf = true)), (1, QE En.bool (fun x => True))] Try.underlying108 (FieldsFit.cons rfl (by kernel_rfl) (rd_int Try.underlying2) (FieldsFit.cons rfl (by kernel_rfl) (rd_int Try.underlying2) (FieldsFit.cons rfl (by kernel_rfl) (rd_int Try.underlying2) (FieldsFit.cons rfl (by kernel_rfl) (rd_bool Try.underlying4) (FieldsFit.nil (by kernel_rfl))))))).imp fun w cs h => qe_iso (ok := fun p : Int × Int × Int × Bool => (Lit.int .i64 p.1).wf = true ∧ (Lit.int .i64 p.2.1).wf = true ∧ (Lit.int .i64 p.2.2.1).wf = true ∧ True) (fun _ => rfl) (rowq_cons (E := (En.int .i64)) (ok := fun x => (Lit.int .i64 x).wf = true) (fun cs h => rowq_cons (E := (En.int .i64)) (ok := fun x => (Lit.int .i64 x).wf = true) (fun cs h => rowq_cons (E := (En.int .i64)) (ok := fun x => (Lit.int .i64 x).wf = true) (fun cs h => rowq_one (E := En.bool) (ok := fun x => True) h) h) h) h)
theorem rd_110 : Reads Try.prog 110 (QE enCode okCode) := (reads_struct [(1, QE (En.int .i64) (fun x => (Lit.int .i64 x).wf = true)), (1, QE (En.int .i64) (fun x => (Lit.int .i64 x).wf = true))] Try.underlying110 (FieldsFit.cons rfl (by kernel_rfl) (rd_int Try.underlying2) (FieldsFit.cons rfl (by kernel_rfl) (rd_int Try.underlying2) (FieldsFit.nil (by kernel_rfl))))).imp fun w cs h => qe_iso (ok := fun p : Int × Int => (Lit.int .i64 p.1).wf = true ∧ (Lit.int .i64 p.2).wf = true) (fun _ => rfl) (rowq_cons (E := (En.int .i64)) (ok := fun x => (Lit.int .i64 x).wf = true) (fun cs h => rowq_one (E := (En.int .i64)) (ok := fun x => (Lit.int .i64 x).wf = true) h) h)
theorem rd_112 : Reads Try.prog 112 (QE enPool okPool) := (reads_struct [(1, QE (En.int .i64) (fun x => (Lit.int .i64 x).wf = true)), (2, QE enCode (fun x => okCode x)), (1, QE (En.int .i64) (fun x => (Lit.int .i64 x).wf = true)), (1, QE (En.int .i64) (fun x => (Lit.int .i64 x).wf = true)), (1, QE (En.int .i64) (fun x => (Lit.int .i64 x).wf = true))] Try.underlying112 (FieldsFit.cons rfl (by kernel_rfl) (rd_int Try.underlying2) (FieldsFit.cons rfl (by kernel_rfl) rd_110 (FieldsFit.cons rfl (by kernel_rfl) (rd_int Try.underlying2) (FieldsFit.cons rfl (by kernel_rfl) (rd_int Try.underlying2) (FieldsFit.cons rfl (by kernel_rfl) (rd_int Try.underlying2) (FieldsFit.nil (by kernel_rfl)))))))).imp fun w cs h => qe_iso (ok := fun p : Int × Code × Int × Int × Int => (Lit.int .i64 p.1).wf = true ∧ okCode p.2.1 ∧ (Lit.int .i64 p.2.2.1).wf = true ∧ (Lit.int .i64 p.2.2.2.1).wf = true ∧ (Lit.int .i64 p.2.2.2.2).wf = true) (fun _ => rfl) (rowq_cons (E := (En.int .i64)) (ok := fun x => (Lit.int .i64 x).wf = true) (fun cs h => rowq_cons (E := enCode) (ok := fun x => okCode x) (fun cs h => rowq_cons (E := (En.int .i64)) (ok := fun x => (Lit.int .i64 x).wf = true) (fun cs h => rowq_cons (E := (En.int .i64)) (ok := fun x => (Lit.int .i64 x).wf = true) (fun cs h => rowq_one (E := (En.int .i64)) (ok := fun x => (Lit.int .i64 x).wf = true) h) h) h) h) h)
theorem rd_30 : Reads Try.prog 30 (QE enMp okMp) := (reads_struct [(1, QE (En.int .i64) (fun x => (Lit.int .i64 x).wf = true)), (1, QE (En.int .i64) (fun x => (Lit.int .i64 x).wf = true)), (2, QE enTree (fun x => okTree x)), (1, QE enRule.list (fun x => (x.length ≤ maxLen ∧ x.length * 32 ≤ 140737488351232 ∧ ∀ y1 ∈ x, okRule y1))), (1, QE enPool.list (fun x => (x.length ≤ maxLen ∧ x.length * 48 ≤ 140737488351232 ∧ ∀ y1 ∈ x, okPool y1))), (1, QE (En.int .i64).list (fun x => (x.length ≤ maxLen ∧ x.length * 8 ≤ 140737488351232 ∧ ∀ y1 ∈ x, (Lit.int .i64 y1).wf = true))), (1, QE (En.int .i64).list (fun x => (x.length ≤ maxLen ∧ x.length * 8 ≤ 140737488351232 ∧ ∀ y1 ∈ x, (Lit.int .i64 y1).wf = true)))] Try.underlying30 (FieldsFit.cons rfl (by kernel_rfl) (rd_int Try.underlying2) (FieldsFit.cons rfl (by kernel_rfl) (rd_int Try.underlying2) (FieldsFit.cons rfl (by kernel_rfl) rd_25 (FieldsFit.cons rfl (by kernel_rfl) (rd_list 32 Try.underlying26 (by kernel_rfl) (by kernel_rfl) rd_108) (FieldsFit.cons rfl (by kernel_rfl) (rd_list 48 Try.underlying27 (by kernel_rfl) (by kernel_rfl) rd_112) (FieldsFit.cons rfl (by kernel_rfl) (rd_list 8 Try.underlying28 (by kernel_rfl) (by kernel_rfl) (rd_int Try.underlying2)) (FieldsFit.cons rfl (by kernel_rfl) (rd_list 8 Try.underlying28 (by kernel_rfl) (by kernel_rfl) (rd_int Try.underlying2)) (FieldsFit.nil (by kernel_rfl)))))))))).imp fun w cs h => qe_iso (ok := fun p : Int × Int × Tree × (List Rule) × (List Pool) × (List Int) × (List Int) => (Lit.int .i64 p.1).wf = true ∧ (Lit.int .i64 p.2.1).wf = true ∧ okTree p.2.2.1 ∧ (p.2.2.2.1.length ≤ maxLen ∧ p.2.2.2.1.length * 32 ≤ 140737488351232 ∧ ∀ y1 ∈ p.2.2.2.1, okRule y1) ∧ (p.2.2.2.2.1.length ≤ maxLen ∧ p.2.2.2.2.1.length * 48 ≤ 140737488351232 ∧ ∀ y1 ∈ p.2.2.2.2.1, okPool y1) ∧ (p.2.2.2.2.2.1.length ≤ maxLen ∧ p.2.2.2.2.2.1.length * 8 ≤ 140737488351232 ∧ ∀ y1 ∈ p.2.2.2.2.2.1, (Lit.int .i64 y1).wf = true) ∧ (p.2.2.2.2.2.2.length ≤ maxLen ∧ p.2.2.2.2.2.2.length * 8 ≤ 140737488351232 ∧ ∀ y1 ∈ p.2.2.2.2.2.2, (Lit.int .i64 y1).wf = true)) (fun _ => rfl) (rowq_cons (E := (En.int .i64)) (ok := fun x => (Lit.int .i64 x).wf = true) (fun cs h => rowq_cons (E := (En.int .i64)) (ok := fun x => (Lit.int .i64 x).wf = true) (fun cs h => rowq_cons (E := enTree) (ok := fun x => okTree x) (fun cs h => rowq_cons (E := enRule.list) (ok := fun x => (x.length ≤ maxLen ∧ x.length * 32 ≤ 140737488351232 ∧ ∀ y1 ∈ x, okRule y1)) (fun cs h => rowq_cons (E := enPool.list) (ok := fun x => (x.length ≤ maxLen ∧ x.length * 48 ≤ 140737488351232 ∧ ∀ y1 ∈ x, okPool y1)) (fun cs h => rowq_cons (E := (En.int .i64).list) (ok := fun x => (x.length ≤ maxLen ∧ x.length * 8 ≤ 140737488351232 ∧ ∀ y1 ∈ x, (Lit.int .i64 y1).wf = true)) (fun cs h => rowq_one (E := (En.int .i64).list) (ok := fun x => (x.length ≤ maxLen ∧ x.length * 8 ≤ 140737488351232 ∧ ∀ y1 ∈ x, (Lit.int .i64 y1).wf = true)) h) h) h) h) h) h) h)
@[go_sem] theorem eqok_133 : eqOk Try.prog 133 [0, 0] = true := by kernel_rfl
@[go_sem] theorem eqok_125 : eqOk Try.prog 125 [0, 0] = true := by kernel_rfl
@[go_sem] theorem eqok_108 : eqOk Try.prog 108 [0, 0, 0, 1] = true := by kernel_rfl
@[go_sem] theorem eqok_87 : eqOk Try.prog 87 [0, 0, 0, 1] = true := by kernel_rfl
@[go_sem] theorem eqok_110 : eqOk Try.prog 110 [0, 0] = true := by kernel_rfl
@[go_sem] theorem eqok_45 : eqOk Try.prog 45 [0, 0] = true := by kernel_rfl
@[go_sem] theorem eqok_112 : eqOk Try.prog 112 [0, 0, 0, 0, 0, 0] = true := by kernel_rfl
@[go_sem] theorem eqok_47 : eqOk Try.prog 47 [0, 0, 0, 0, 0, 0] = true := by kernel_rfl
@[go_sem] theorem eqok_97 : eqOk Try.prog 97 [0, 0] = true := by kernel_rfl
end Go.Ve
