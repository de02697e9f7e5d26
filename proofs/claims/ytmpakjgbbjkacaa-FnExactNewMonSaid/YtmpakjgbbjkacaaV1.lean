/- The data of the seat as Lean's structs, and how they lie in memory. No condition. -/
import Derived.Test.YtmpakjgbbjkacaaE29
import Derived.Test.YtmpakjgbbjkacaaV0
namespace Go.Ve
open Go.Proofs Go.RowKit
set_option linter.unusedVariables false
set_option linter.unusedSimpArgs false
set_option maxRecDepth 10000
set_option maxHeartbeats 4000000
structure Ballot where
  no : Int
  by_ : Int
  deriving Inhabited
def toBallot (p : Int × Int) : Ballot := ⟨p.1, p.2⟩
def ofBallot (x : Ballot) : Int × Int := (x.no, x.by_)
def enBallot : En Ballot := En.iso ((En.int .i64).prod (En.int .i64)) ofBallot toBallot (fun _ => rfl)
@[go_sem] theorem av_Ballot {τ : Nat} {x : Ballot} : enBallot.av τ x = .agg [.int .i64 x.no, .int .i64 x.by_] := rfl
@[go_sem] theorem cs_Ballot {τ : Nat} {x : Ballot} : enBallot.cs τ x = [.int .i64 x.no, .int .i64 x.by_] := rfl
theorem tot_Ballot {x : Ballot} : enBallot.tot x = 0 := by
  show enBallot.tot x = _
  simp [enBallot, En.iso, En.prod, ofBallot, En.int, En.bool, En.str, tot_list, sum_zero]
@[go_sem] theorem w_Ballot : enBallot.w = 2 := rfl
theorem eq_Ballot {x y : Ballot} : x = y ↔ x.no = y.no ∧ x.by_ = y.by_ := by
  cases x; cases y; simp
def okBallot (x : Ballot) : Prop := (Lit.int .i64 x.no).wf = true ∧ (Lit.int .i64 x.by_).wf = true
theorem fit_63 : FitE Try.prog 63 enBallot := ⟨by simp only [go_sem], by simp only [go_sem], fun τ x => by simp [go_sem]⟩
theorem fitz_63 : FitZ Try.prog 63 enBallot := ⟨by simp only [go_sem], by simp only [go_sem], by simp only [go_sem], by simp [go_sem], by simp only [go_sem], by simp [go_sem], by simp [go_sem], fun τ x => by simp [go_sem, setEl]⟩
theorem fit_49 : FitE Try.prog 49 enBallot := ⟨by simp only [go_sem], by simp only [go_sem], fun τ x => by simp [go_sem]⟩
theorem fitz_49 : FitZ Try.prog 49 enBallot := ⟨by simp only [go_sem], by simp only [go_sem], by simp only [go_sem], by simp [go_sem], by simp only [go_sem], by simp [go_sem], by simp [go_sem], fun τ x => by simp [go_sem, setEl]⟩
structure Inc where
  epoch : Int
  kind : Int
  a : Int
  b : Int
  deriving Inhabited
def toInc (p : Int × Int × Int × Int) : Inc := ⟨p.1, p.2.1, p.2.2.1, p.2.2.2⟩
def ofInc (x : Inc) : Int × Int × Int × Int := (x.epoch, (x.kind, (x.a, x.b)))
def enInc : En Inc := En.iso ((En.int .i64).prod ((En.int .i64).prod ((En.int .i64).prod (En.int .i64)))) ofInc toInc (fun _ => rfl)
@[go_sem] theorem av_Inc {τ : Nat} {x : Inc} : enInc.av τ x = .agg [.int .i64 x.epoch, .int .i64 x.kind, .int .i64 x.a, .int .i64 x.b] := rfl
@[go_sem] theorem cs_Inc {τ : Nat} {x : Inc} : enInc.cs τ x = [.int .i64 x.epoch, .int .i64 x.kind, .int .i64 x.a, .int .i64 x.b] := rfl
theorem tot_Inc {x : Inc} : enInc.tot x = 0 := by
  show enInc.tot x = _
  simp [enInc, En.iso, En.prod, ofInc, En.int, En.bool, En.str, tot_list, sum_zero]
@[go_sem] theorem w_Inc : enInc.w = 4 := rfl
theorem eq_Inc {x y : Inc} : x = y ↔ x.epoch = y.epoch ∧ x.kind = y.kind ∧ x.a = y.a ∧ x.b = y.b := by
  cases x; cases y; simp
def okInc (x : Inc) : Prop := (Lit.int .i64 x.epoch).wf = true ∧ (Lit.int .i64 x.kind).wf = true ∧ (Lit.int .i64 x.a).wf = true ∧ (Lit.int .i64 x.b).wf = true
theorem fit_64 : FitE Try.prog 64 enInc := ⟨by simp only [go_sem], by simp only [go_sem], fun τ x => by simp [go_sem]⟩
theorem fitz_64 : FitZ Try.prog 64 enInc := ⟨by simp only [go_sem], by simp only [go_sem], by simp only [go_sem], by simp [go_sem], by simp only [go_sem], by simp [go_sem], by simp [go_sem], fun τ x => by simp [go_sem, setEl]⟩
theorem fit_51 : FitE Try.prog 51 enInc := ⟨by simp only [go_sem], by simp only [go_sem], fun τ x => by simp [go_sem]⟩
theorem fitz_51 : FitZ Try.prog 51 enInc := ⟨by simp only [go_sem], by simp only [go_sem], by simp only [go_sem], by simp [go_sem], by simp only [go_sem], by simp [go_sem], by simp [go_sem], fun τ x => by simp [go_sem, setEl]⟩
structure Slot where
  epoch : Int
  promised : Ballot
  accepted : Ballot
  inc : Inc
  deriving Inhabited
def toSlot (p : Int × Ballot × Ballot × Inc) : Slot := ⟨p.1, p.2.1, p.2.2.1, p.2.2.2⟩
def ofSlot (x : Slot) : Int × Ballot × Ballot × Inc := (x.epoch, (x.promised, (x.accepted, x.inc)))
def enSlot : En Slot := En.iso ((En.int .i64).prod (enBallot.prod (enBallot.prod enInc))) ofSlot toSlot (fun _ => rfl)
@[go_sem] theorem av_Slot {τ : Nat} {x : Slot} : enSlot.av τ x = .agg [.int .i64 x.epoch, .int .i64 x.promised.no, .int .i64 x.promised.by_, .int .i64 x.accepted.no, .int .i64 x.accepted.by_, .int .i64 x.inc.epoch, .int .i64 x.inc.kind, .int .i64 x.inc.a, .int .i64 x.inc.b] := rfl
@[go_sem] theorem cs_Slot {τ : Nat} {x : Slot} : enSlot.cs τ x = [.int .i64 x.epoch, .int .i64 x.promised.no, .int .i64 x.promised.by_, .int .i64 x.accepted.no, .int .i64 x.accepted.by_, .int .i64 x.inc.epoch, .int .i64 x.inc.kind, .int .i64 x.inc.a, .int .i64 x.inc.b] := rfl
theorem tot_Slot {x : Slot} : enSlot.tot x = 0 := by
  show enSlot.tot x = _
  simp [enSlot, En.iso, En.prod, ofSlot, En.int, En.bool, En.str, tot_list, sum_zero, tot_Ballot, tot_Inc]
@[go_sem] theorem w_Slot : enSlot.w = 9 := rfl
theorem eq_Slot {x y : Slot} : x = y ↔ x.epoch = y.epoch ∧ x.promised = y.promised ∧ x.accepted = y.accepted ∧ x.inc = y.inc := by
  cases x; cases y; simp
def okSlot (x : Slot) : Prop := (Lit.int .i64 x.epoch).wf = true ∧ okBallot x.promised ∧ okBallot x.accepted ∧ okInc x.inc
theorem fit_130 : FitE Try.prog 130 enSlot := ⟨by simp only [go_sem], by simp only [go_sem], fun τ x => by simp [go_sem]⟩
theorem fitz_130 : FitZ Try.prog 130 enSlot := ⟨by simp only [go_sem], by simp only [go_sem], by simp only [go_sem], by simp [go_sem], by simp only [go_sem], by simp [go_sem], by simp [go_sem], fun τ x => by simp [go_sem, setEl]⟩
theorem fit_98 : FitE Try.prog 98 enSlot := ⟨by simp only [go_sem], by simp only [go_sem], fun τ x => by simp [go_sem]⟩
theorem fitz_98 : FitZ Try.prog 98 enSlot := ⟨by simp only [go_sem], by simp only [go_sem], by simp only [go_sem], by simp [go_sem], by simp only [go_sem], by simp [go_sem], by simp [go_sem], fun τ x => by simp [go_sem, setEl]⟩
structure Try where
  epoch : Int
  ballot : Ballot
  inc : Inc
  highest : Ballot
  promises : List Int
  accepts : List Int
  decided : Bool
  deriving Inhabited
def toTry (p : Int × Ballot × Inc × Ballot × (List Int) × (List Int) × Bool) : Try := ⟨p.1, p.2.1, p.2.2.1, p.2.2.2.1, p.2.2.2.2.1, p.2.2.2.2.2.1, p.2.2.2.2.2.2⟩
def ofTry (x : Try) : Int × Ballot × Inc × Ballot × (List Int) × (List Int) × Bool := (x.epoch, (x.ballot, (x.inc, (x.highest, (x.promises, (x.accepts, x.decided))))))
def enTry : En Try := En.iso ((En.int .i64).prod (enBallot.prod (enInc.prod (enBallot.prod ((En.int .i64).list.prod ((En.int .i64).list.prod En.bool)))))) ofTry toTry (fun _ => rfl)
@[go_sem] theorem av_Try {τ : Nat} {x : Try} : enTry.av τ x = .agg [.int .i64 x.epoch, .int .i64 x.ballot.no, .int .i64 x.ballot.by_, .int .i64 x.inc.epoch, .int .i64 x.inc.kind, .int .i64 x.inc.a, .int .i64 x.inc.b, .int .i64 x.highest.no, .int .i64 x.highest.by_, .sl τ 1 (x.promises.map (AV.int .i64)), .sl τ 1 (x.accepts.map (AV.int .i64)), .bool x.decided] := rfl
@[go_sem] theorem cs_Try {τ : Nat} {x : Try} : enTry.cs τ x = [.int .i64 x.epoch, .int .i64 x.ballot.no, .int .i64 x.ballot.by_, .int .i64 x.inc.epoch, .int .i64 x.inc.kind, .int .i64 x.inc.a, .int .i64 x.inc.b, .int .i64 x.highest.no, .int .i64 x.highest.by_, .sl τ 1 (x.promises.map (AV.int .i64)), .sl τ 1 (x.accepts.map (AV.int .i64)), .bool x.decided] := rfl
theorem tot_Try {x : Try} : enTry.tot x = (x.promises.length + x.accepts.length) := by
  show enTry.tot x = _
  simp [enTry, En.iso, En.prod, ofTry, En.int, En.bool, En.str, tot_list, sum_zero, sum_flat (E := (En.int .i64)) (fun _ => rfl), tot_Ballot, tot_Inc]
@[go_sem] theorem w_Try : enTry.w = 12 := rfl
theorem eq_Try {x y : Try} : x = y ↔ x.epoch = y.epoch ∧ x.ballot = y.ballot ∧ x.inc = y.inc ∧ x.highest = y.highest ∧ x.promises = y.promises ∧ x.accepts = y.accepts ∧ x.decided = y.decided := by
  cases x; cases y; simp
def okTry (x : Try) : Prop := (Lit.int .i64 x.epoch).wf = true ∧ okBallot x.ballot ∧ okInc x.inc ∧ okBallot x.highest ∧ (x.promises.length ≤ maxLen ∧ x.promises.length * 8 ≤ 140737488351232 ∧ ∀ y1 ∈ x.promises, (Lit.int .i64 y1).wf = true) ∧ (x.accepts.length ≤ maxLen ∧ x.accepts.length * 8 ≤ 140737488351232 ∧ ∀ y1 ∈ x.accepts, (Lit.int .i64 y1).wf = true) ∧ True
theorem fit_66 : FitE Try.prog 66 enTry := ⟨by simp only [go_sem], by simp only [go_sem], fun τ x => by simp [go_sem]⟩
theorem fitz_66 : FitZ Try.prog 66 enTry := ⟨by simp only [go_sem], by simp only [go_sem], by simp only [go_sem], by simp [go_sem], by simp only [go_sem], by simp [go_sem], by simp [go_sem], fun τ x => by simp [go_sem, setEl]⟩
theorem fit_54 : FitE Try.prog 54 enTry := ⟨by simp only [go_sem], by simp only [go_sem], fun τ x => by simp [go_sem]⟩
theorem fitz_54 : FitZ Try.prog 54 enTry := ⟨by simp only [go_sem], by simp only [go_sem], by simp only [go_sem], by simp [go_sem], by simp only [go_sem], by simp [go_sem], by simp [go_sem], fun τ x => by simp [go_sem, setEl]⟩
structure Mon where
  id : Int
  many : Int
  slots : List Slot
  try_ : Try
  deriving Inhabited
def toMon (p : Int × Int × (List Slot) × Try) : Mon := ⟨p.1, p.2.1, p.2.2.1, p.2.2.2⟩
def ofMon (x : Mon) : Int × Int × (List Slot) × Try := (x.id, (x.many, (x.slots, x.try_)))
def enMon : En Mon := En.iso ((En.int .i64).prod ((En.int .i64).prod (enSlot.list.prod enTry))) ofMon toMon (fun _ => rfl)
@[go_sem] theorem av_Mon {τ : Nat} {x : Mon} : enMon.av τ x = .agg [.int .i64 x.id, .int .i64 x.many, .sl τ 9 (x.slots.map (enSlot.av τ)), .int .i64 x.try_.epoch, .int .i64 x.try_.ballot.no, .int .i64 x.try_.ballot.by_, .int .i64 x.try_.inc.epoch, .int .i64 x.try_.inc.kind, .int .i64 x.try_.inc.a, .int .i64 x.try_.inc.b, .int .i64 x.try_.highest.no, .int .i64 x.try_.highest.by_, .sl τ 1 (x.try_.promises.map (AV.int .i64)), .sl τ 1 (x.try_.accepts.map (AV.int .i64)), .bool x.try_.decided] := rfl
@[go_sem] theorem cs_Mon {τ : Nat} {x : Mon} : enMon.cs τ x = [.int .i64 x.id, .int .i64 x.many, .sl τ 9 (x.slots.map (enSlot.av τ)), .int .i64 x.try_.epoch, .int .i64 x.try_.ballot.no, .int .i64 x.try_.ballot.by_, .int .i64 x.try_.inc.epoch, .int .i64 x.try_.inc.kind, .int .i64 x.try_.inc.a, .int .i64 x.try_.inc.b, .int .i64 x.try_.highest.no, .int .i64 x.try_.highest.by_, .sl τ 1 (x.try_.promises.map (AV.int .i64)), .sl τ 1 (x.try_.accepts.map (AV.int .i64)), .bool x.try_.decided] := rfl
theorem tot_Mon {x : Mon} : enMon.tot x = (x.slots.length + (x.try_.promises.length + x.try_.accepts.length)) := by
  show enMon.tot x = _
  simp [enMon, En.iso, En.prod, ofMon, En.int, En.bool, En.str, tot_list, sum_zero, sum_flat (E := (En.int .i64)) (fun _ => rfl), sum_flat (E := enSlot) (fun _ => tot_Slot), tot_Try]
  try omega
@[go_sem] theorem w_Mon : enMon.w = 15 := rfl
theorem eq_Mon {x y : Mon} : x = y ↔ x.id = y.id ∧ x.many = y.many ∧ x.slots = y.slots ∧ x.try_ = y.try_ := by
  cases x; cases y; simp
def okMon (x : Mon) : Prop := (Lit.int .i64 x.id).wf = true ∧ (Lit.int .i64 x.many).wf = true ∧ (x.slots.length ≤ maxLen ∧ x.slots.length * 72 ≤ 140737488351232 ∧ ∀ y1 ∈ x.slots, okSlot y1) ∧ okTry x.try_
theorem fit_68 : FitE Try.prog 68 enMon := ⟨by simp only [go_sem], by simp only [go_sem], fun τ x => by simp [go_sem]⟩
theorem fitz_68 : FitZ Try.prog 68 enMon := ⟨by simp only [go_sem], by simp only [go_sem], by simp only [go_sem], by simp [go_sem], by simp only [go_sem], by simp [go_sem], by simp [go_sem], fun τ x => by simp [go_sem, setEl]⟩
theorem fit_56 : FitE Try.prog 56 enMon := ⟨by simp only [go_sem], by simp only [go_sem], fun τ x => by simp [go_sem]⟩
theorem fitz_56 : FitZ Try.prog 56 enMon := ⟨by simp only [go_sem], by simp only [go_sem], by simp only [go_sem], by simp [go_sem], by simp only [go_sem], by simp [go_sem], by simp [go_sem], fun τ x => by simp [go_sem, setEl]⟩
theorem rd_63 : Reads Try.prog 63 (QE enBallot okBallot) := (reads_struct [(1, QE (En.int .i64) (fun x => (Lit.int .i64 x).wf = true)), (1, QE (En.int .i64) (fun x => (Lit.int .i64 x).wf = true))] Try.underlying63 (FieldsFit.cons rfl (by kernel_rfl) (rd_int Try.underlying2) (FieldsFit.cons rfl (by kernel_rfl) (rd_int Try.underlying2) (FieldsFit.nil (by kernel_rfl))))).imp fun w cs h => qe_iso (ok := fun p : Int × Int => (Lit.int .i64 p.1).wf = true ∧ (Lit.int .i64 p.2).wf = true) (fun _ => rfl) (rowq_cons (E := (En.int .i64)) (ok := fun x => (Lit.int .i64 x).wf = true) (fun cs h => rowq_one (E := (En.int .i64)) (ok := fun x => (Lit.int .i64 x).wf = true) h) h)
theorem rd_64 : Reads Try.prog 64 (QE enInc okInc) := (reads_struct [(1, QE (En.int .i64) (fun x => (Lit.int .i64 x).wf = true)), (1, QE (En.int .i64) (fun x => (Lit.int .i64 x).wf = true)), (1, QE (En.int .i64) (fun x => (Lit.int .i64 x).wf = true)), (1, QE (En.int .i64) (fun x => (Lit.int .i64 x).wf = true))] Try.underlying64 (FieldsFit.cons rfl (by kernel_rfl) (rd_int Try.underlying2) (FieldsFit.cons rfl (by kernel_rfl) (rd_int Try.underlying2) (FieldsFit.cons rfl (by kernel_rfl) (rd_int Try.underlying2) (FieldsFit.cons rfl (by kernel_rfl) (rd_int Try.underlying2) (FieldsFit.nil (by kernel_rfl))))))).imp fun w cs h => qe_iso (ok := fun p : Int × Int × Int × Int => (Lit.int .i64 p.1).wf = true ∧ (Lit.int .i64 p.2.1).wf = true ∧ (Lit.int .i64 p.2.2.1).wf = true ∧ (Lit.int .i64 p.2.2.2).wf = true) (fun _ => rfl) (rowq_cons (E := (En.int .i64)) (ok := fun x => (Lit.int .i64 x).wf = true) (fun cs h => rowq_cons (E := (En.int .i64)) (ok := fun x => (Lit.int .i64 x).wf = true) (fun cs h => rowq_cons (E := (En.int .i64)) (ok := fun x => (Lit.int .i64 x).wf = true) (fun cs h => rowq_one (E := (En.int .i64)) (ok := fun x => (Lit.int .i64 x).wf = true) h) h) h) h)
theorem rd_130 : Reads Try.prog 130 (QE enSlot okSlot) := (reads_struct [(1, QE (En.int .i64) (fun x => (Lit.int .i64 x).wf = true)), (2, QE enBallot (fun x => okBallot x)), (2, QE enBallot (fun x => okBallot x)), (4, QE enInc (fun x => okInc x))] Try.underlying130 (FieldsFit.cons rfl (by kernel_rfl) (rd_int Try.underlying2) (FieldsFit.cons rfl (by kernel_rfl) rd_63 (FieldsFit.cons rfl (by kernel_rfl) rd_63 (FieldsFit.cons rfl (by kernel_rfl) rd_64 (FieldsFit.nil (by kernel_rfl))))))).imp fun w cs h => qe_iso (ok := fun p : Int × Ballot × Ballot × Inc => (Lit.int .i64 p.1).wf = true ∧ okBallot p.2.1 ∧ okBallot p.2.2.1 ∧ okInc p.2.2.2) (fun _ => rfl) (rowq_cons (E := (En.int .i64)) (ok := fun x => (Lit.int .i64 x).wf = true) (fun cs h => rowq_cons (E := enBallot) (ok := fun x => okBallot x) (fun cs h => rowq_cons (E := enBallot) (ok := fun x => okBallot x) (fun cs h => rowq_one (E := enInc) (ok := fun x => okInc x) h) h) h) h)
theorem rd_66 : Reads Try.prog 66 (QE enTry okTry) := (reads_struct [(1, QE (En.int .i64) (fun x => (Lit.int .i64 x).wf = true)), (2, QE enBallot (fun x => okBallot x)), (4, QE enInc (fun x => okInc x)), (2, QE enBallot (fun x => okBallot x)), (1, QE (En.int .i64).list (fun x => (x.length ≤ maxLen ∧ x.length * 8 ≤ 140737488351232 ∧ ∀ y1 ∈ x, (Lit.int .i64 y1).wf = true))), (1, QE (En.int .i64).list (fun x => (x.length ≤ maxLen ∧ x.length * 8 ≤ 140737488351232 ∧ ∀ y1 ∈ x, (Lit.int .i64 y1).wf = true))), (1, QE En.bool (fun x => True))] Try.underlying66 (FieldsFit.cons rfl (by kernel_rfl) (rd_int Try.underlying2) (FieldsFit.cons rfl (by kernel_rfl) rd_63 (FieldsFit.cons rfl (by kernel_rfl) rd_64 (FieldsFit.cons rfl (by kernel_rfl) rd_63 (FieldsFit.cons rfl (by kernel_rfl) (rd_list 8 Try.underlying52 (by kernel_rfl) (by kernel_rfl) (rd_int Try.underlying2)) (FieldsFit.cons rfl (by kernel_rfl) (rd_list 8 Try.underlying52 (by kernel_rfl) (by kernel_rfl) (rd_int Try.underlying2)) (FieldsFit.cons rfl (by kernel_rfl) (rd_bool Try.underlying4) (FieldsFit.nil (by kernel_rfl)))))))))).imp fun w cs h => qe_iso (ok := fun p : Int × Ballot × Inc × Ballot × (List Int) × (List Int) × Bool => (Lit.int .i64 p.1).wf = true ∧ okBallot p.2.1 ∧ okInc p.2.2.1 ∧ okBallot p.2.2.2.1 ∧ (p.2.2.2.2.1.length ≤ maxLen ∧ p.2.2.2.2.1.length * 8 ≤ 140737488351232 ∧ ∀ y1 ∈ p.2.2.2.2.1, (Lit.int .i64 y1).wf = true) ∧ (p.2.2.2.2.2.1.length ≤ maxLen ∧ p.2.2.2.2.2.1.length * 8 ≤ 140737488351232 ∧ ∀ y1 ∈ p.2.2.2.2.2.1, (Lit.int .i64 y1).wf = true) ∧ True) (fun _ => rfl) (rowq_cons (E := (En.int .i64)) (ok := fun x => (Lit.int .i64 x).wf = true) (fun cs h => rowq_cons (E := enBallot) (ok := fun x => okBallot x) (fun cs h => rowq_cons (E := enInc) (ok := fun x => okInc x) (fun cs h => rowq_cons (E := enBallot) (ok := fun x => okBallot x) (fun cs h => rowq_cons (E := (En.int .i64).list) (ok := fun x => (x.length ≤ maxLen ∧ x.length * 8 ≤ 140737488351232 ∧ ∀ y1 ∈ x, (Lit.int .i64 y1).wf = true)) (fun cs h => rowq_cons (E := (En.int .i64).list) (ok := fun x => (x.length ≤ maxLen ∧ x.length * 8 ≤ 140737488351232 ∧ ∀ y1 ∈ x, (Lit.int .i64 y1).wf = true)) (fun cs h => rowq_one (E := En.bool) (ok := fun x => True) h) h) h) h) h) h) h)
theorem rd_68 : Reads Try.prog 68 (QE enMon okMon) := (reads_struct [(1, QE (En.int .i64) (fun x => (Lit.int .i64 x).wf = true)), (1, QE (En.int .i64) (fun x => (Lit.int .i64 x).wf = true)), (1, QE enSlot.list (fun x => (x.length ≤ maxLen ∧ x.length * 72 ≤ 140737488351232 ∧ ∀ y1 ∈ x, okSlot y1))), (12, QE enTry (fun x => okTry x))] Try.underlying68 (FieldsFit.cons rfl (by kernel_rfl) (rd_int Try.underlying2) (FieldsFit.cons rfl (by kernel_rfl) (rd_int Try.underlying2) (FieldsFit.cons rfl (by kernel_rfl) (rd_list 72 Try.underlying62 (by kernel_rfl) (by kernel_rfl) rd_130) (FieldsFit.cons rfl (by kernel_rfl) rd_66 (FieldsFit.nil (by kernel_rfl))))))).imp fun w cs h => qe_iso (ok := fun p : Int × Int × (List Slot) × Try => (Lit.int .i64 p.1).wf = true ∧ (Lit.int .i64 p.2.1).wf = true ∧ (p.2.2.1.length ≤ maxLen ∧ p.2.2.1.length * 72 ≤ 140737488351232 ∧ ∀ y1 ∈ p.2.2.1, okSlot y1) ∧ okTry p.2.2.2) (fun _ => rfl) (rowq_cons (E := (En.int .i64)) (ok := fun x => (Lit.int .i64 x).wf = true) (fun cs h => rowq_cons (E := (En.int .i64)) (ok := fun x => (Lit.int .i64 x).wf = true) (fun cs h => rowq_cons (E := enSlot.list) (ok := fun x => (x.length ≤ maxLen ∧ x.length * 72 ≤ 140737488351232 ∧ ∀ y1 ∈ x, okSlot y1)) (fun cs h => rowq_one (E := enTry) (ok := fun x => okTry x) h) h) h) h)
@[go_sem] theorem eqok_63 : eqOk Try.prog 63 [0, 0] = true := by kernel_rfl
@[go_sem] theorem eqok_49 : eqOk Try.prog 49 [0, 0] = true := by kernel_rfl
@[go_sem] theorem eqok_64 : eqOk Try.prog 64 [0, 0, 0, 0] = true := by kernel_rfl
@[go_sem] theorem eqok_51 : eqOk Try.prog 51 [0, 0, 0, 0] = true := by kernel_rfl
@[go_sem] theorem eqok_130 : eqOk Try.prog 130 [0, 0, 0, 0, 0, 0, 0, 0, 0] = true := by kernel_rfl
@[go_sem] theorem eqok_98 : eqOk Try.prog 98 [0, 0, 0, 0, 0, 0, 0, 0, 0] = true := by kernel_rfl
end Go.Ve
