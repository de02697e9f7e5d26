/- Contracts: ballots and increments. No condition. -/
import Derived.Test.YtmpakjgbbjkacaaV2
namespace Go.Ve
open Go.Proofs Go.RowKit
set_option linter.unusedVariables false
set_option linter.unusedSimpArgs false
set_option maxRecDepth 10000
set_option maxHeartbeats 4000000
def btw (n lo hi : Int) : Bool := decide (lo ≤ n) && decide (n ≤ hi)
/-- Each against the one ahead of it. -/
def chk {α : Type} (p : Option α → α → Bool) : Option α → List α → Bool
  | _, [] => true
  | o, x :: l => p o x && chk p (some x) l
theorem last_concat {α : Type} {q : List α} {y : α} : (q ++ [y]).getLast? = some y := by simp
def zB : Ballot := ⟨0, 0⟩
def zI : Inc := ⟨0, 0, 0, 0⟩
def lessB (a b : Ballot) : Bool := decide (a.no < b.no) || (decide (a.no = b.no) && decide (a.by_ < b.by_))
noncomputable def ballotOk (b : Ballot) : Bool := eqB b zB || (btw b.no 1 999 && btw b.by_ 0 4)
def incOk (i : Inc) : Bool := btw i.epoch 2 60 && btw i.kind 1 6 && btw i.a 0 15 && (!decide (i.kind = 6) || decide (i.a = 0)) && (bif decide (i.kind = 5) then btw i.b 0 8 else decide (i.b = 0))
def incFor (i : Inc) (e : Int) : Bool := incOk i && decide (i.epoch = e)
noncomputable def incWith (i : Inc) (acc : Ballot) (e : Int) : Bool := bif eqB acc zB then eqB i zI else incFor i e
def maj (many : Int) (l : List Int) : Bool := decide (many < IntKind.i64.wrap (2 * (l.length : Int)))
noncomputable def tryZero (t : Try) : Bool := decide (t.epoch = 0) && eqB t.ballot zB && eqB t.inc zI && eqB t.highest zB && decide (t.promises.length = 0) && decide (t.accepts.length = 0) && !t.decided
def incP (o : Option Int) (x : Int) : Bool := match o with
  | some y => decide (y < x)
  | none => true
def incr (l : List Int) : Bool := chk incP none l
def idsOk (m : Mon) (l : List Int) : Bool := incr l && !l.any fun x => !btw x 0 (IntKind.i64.wrap (m.many - 1))
noncomputable def tryMain (m : Mon) (t : Try) : Bool := btw t.epoch 2 60 && ballotOk t.ballot && !eqB t.ballot zB && decide (t.ballot.by_ = m.id) && incFor t.inc t.epoch && ballotOk t.highest && lessB t.highest t.ballot && idsOk m t.promises && idsOk m t.accepts && (decide (t.accepts.length = 0) || maj m.many t.promises) && (t.decided == maj m.many t.accepts)
noncomputable def tryOk (m : Mon) : Bool := tryZero m.try_ || tryMain m m.try_
noncomputable def slotOk (s : Slot) : Bool := btw s.epoch 2 60 && ballotOk s.promised && ballotOk s.accepted && !lessB s.promised s.accepted && incWith s.inc s.accepted s.epoch
noncomputable def slotP (o : Option Slot) (s : Slot) : Bool := slotOk s && (match o with
  | some y => decide (y.epoch < s.epoch)
  | none => true)
noncomputable def monOk (m : Mon) : Bool := btw m.many 1 5 && btw m.id 0 (IntKind.i64.wrap (m.many - 1)) && tryOk m && chk slotP none m.slots
theorem exists_concat {α : Type} (y : α) (l : List α) : ∃ q z, y :: l = q ++ [z] := by
  rcases List.eq_nil_or_concat (y :: l) with h | ⟨q, z, h⟩
  · cases h
  · exact ⟨q, z, by rw [h]; simp⟩
def orI (l : List Int) : Int := (l.find? fun x => decide (x ≠ 0)).getD 0
def cmpI (a b : Int) : Int := if a < b then -1 else if b < a then 1 else 0
def cmpB (a b : Ballot) : Int := orI [cmpI a.no b.no, cmpI a.by_ b.by_]
theorem cmpB_less {a b : Ballot} : decide (cmpB a b < 0) = lessB a b := by
  unfold cmpB orI cmpI lessB
  rw [Bool.eq_iff_iff]
  by_cases h1 : a.no < b.no
  · simp [h1]
  · by_cases h2 : b.no < a.no
    · have : ¬ a.no = b.no := by omega
      simp [h1, h2, this]
    · have h3 : a.no = b.no := by omega
      by_cases h4 : a.by_ < b.by_
      · simp [h3, h4]
      · by_cases h5 : b.by_ < a.by_
        · simp [h3, h4, h5]
        · simp [h3, h4, h5]
def risP (lo hi : Int) (o : Option Int) (x : Int) : Bool := btw x lo hi && incP o x
theorem ris_eq {lo hi : Int} : ∀ (l : List Int) (o : Option Int), chk (risP lo hi) o l = (chk incP o l && !l.any fun x => !btw x lo hi)
  | [], o => rfl
  | x :: l, o => by
    simp only [chk, risP, ris_eq l (some x), List.any_cons, Bool.not_or, Bool.not_not]
    ac_rfl
theorem slots_len : ∀ (l : List Slot) (o : Option Slot), chk slotP o l = true → l.length ≤ 60 ∧ (match o with
    | some y => y.epoch + l.length ≤ 60 ∨ l = []
    | none => l.length ≤ 59)
  | [], o, _ => by cases o <;> simp
  | x :: l, o, h => by
    simp only [chk, Bool.and_eq_true] at h
    obtain ⟨h1, h2⟩ := slots_len l (some x) h.2
    have h3 := h.1
    simp only [slotP, slotOk, btw, Bool.and_eq_true, decide_eq_true_eq] at h3
    have h4 := h3.1.1.1.1.1
    have h5 : x.epoch + l.length ≤ 60 := by
      rcases h2 with h2 | rfl
      · exact h2
      · simp; omega
    cases o with
    | none => simp; omega
    | some y =>
      have h6 := h3.2
      simp at h6
      simp
      omega

theorem eqB_zip {α : Type} : ∀ {l l' : List α}, l.length = l'.length → eqB l l' = (l.zip l').all fun p => eqB p.1 p.2
  | [], [], _ => by simp [eqB]
  | x :: l, y :: l', h => by
    have ih := eqB_zip (l := l) (l' := l') (by simpa using h)
    simp only [List.zip_cons_cons, List.all_cons, ← ih]
    rw [Bool.eq_iff_iff]
    simp [eqB]
theorem eqB_ne_len {α : Type} {l l' : List α} (h : l.length ≠ l'.length) : eqB l l' = false := eqB_not.2 fun h' => h (by rw [h'])
theorem zip_parts2 {α : Type} {l l' : List α} (h : l.length = l'.length) {pre post : List (α × α)} {x : α × α} (hl : pre ++ x :: post = l.zip l') : l = (pre ++ x :: post).map Prod.fst ∧ l' = (pre ++ x :: post).map Prod.snd := by
  rw [hl]
  exact ⟨(List.map_fst_zip (by omega)).symm, (List.map_snd_zip (by omega)).symm⟩
theorem zip_nth {α : Type} {f g : α → AV} {l l' : List α} (h : l.length = l'.length) {pre post : List (α × α)} {x : α × α} (hl : pre ++ x :: post = l.zip l') : nth (l.map f) pre.length = f x.1 ∧ nth (l'.map g) pre.length = g x.2 ∧ l.length = pre.length + (post.length + 1) ∧ l'.length = pre.length + (post.length + 1) := by
  obtain ⟨h1, h2⟩ := zip_parts2 h hl
  refine ⟨?_, ?_, ?_, ?_⟩
  · rw [h1]; simp [nth]
  · rw [h2]; simp [nth]
  · rw [h1]; simp
  · rw [h2]; simp

theorem eqB_Ballot {a b : Ballot} : eqB a b = (decide (a.no = b.no) && decide (a.by_ = b.by_)) := by
  rw [Bool.eq_iff_iff]; simp [eqB, eq_Ballot, and_assoc]
theorem eqB_Inc {a b : Inc} : eqB a b = (decide (a.epoch = b.epoch) && (decide (a.kind = b.kind) && (decide (a.a = b.a) && decide (a.b = b.b)))) := by
  rw [Bool.eq_iff_iff]; simp [eqB, eq_Inc, and_assoc]
theorem eqB_Slot {a b : Slot} : eqB a b = (decide (a.epoch = b.epoch) && (decide (a.promised.no = b.promised.no) && (decide (a.promised.by_ = b.promised.by_) && (decide (a.accepted.no = b.accepted.no) && (decide (a.accepted.by_ = b.accepted.by_) && (decide (a.inc.epoch = b.inc.epoch) && (decide (a.inc.kind = b.inc.kind) && (decide (a.inc.a = b.inc.a) && decide (a.inc.b = b.inc.b))))))))) := by
  rw [Bool.eq_iff_iff]; simp [eqB, eq_Slot, eq_Ballot, eq_Inc, and_assoc]
theorem eqB_Try {a b : Try} : eqB a b = (decide (a.epoch = b.epoch) && (eqB a.ballot b.ballot && (eqB a.inc b.inc && (eqB a.highest b.highest && (eqB a.promises b.promises && (eqB a.accepts b.accepts && (a.decided == b.decided))))))) := by
  rw [Bool.eq_iff_iff]; simp [eqB, eq_Try, and_assoc]
theorem eqB_Mon {a b : Mon} : eqB a b = (decide (a.id = b.id) && (decide (a.many = b.many) && (eqB a.slots b.slots && eqB a.try_ b.try_))) := by
  rw [Bool.eq_iff_iff]; simp [eqB, eq_Mon, and_assoc]
/- impl.between -/
def c45 : SCode := (.seq (.reg [⟨(some 6), .assign (.const (.bool false)), none⟩])
(.seq (.reg [⟨(some 7), .move (.tmp 0), none⟩,
    ⟨(some 8), .move (.tmp 1), none⟩,
    ⟨(some 9), .binOp .geq 2 (.tmp 7) (.tmp 8) 2, none⟩,
    ⟨(some 10), .move (.tmp 9), none⟩,
    ⟨(some 11), .move (.tmp 0), (some (10, true))⟩,
    ⟨(some 12), .move (.tmp 2), (some (10, true))⟩,
    ⟨(some 13), .binOp .leq 2 (.tmp 11) (.tmp 12) 2, (some (10, true))⟩,
    ⟨(some 14), .pick (.tmp 10) (.tmp 13) (.const (.bool false)), none⟩,
    ⟨(some 6), .assign (.tmp 14), none⟩])
 .ret))
theorem s45 : slimF Try.f45 = some (c45, [.t 6], 15) := by kernel_rfl
theorem o45 : okF [] Try.f45 = true := by kernel_rfl
noncomputable def g45 : Fsem := sem3 (En.int .i64) (En.int .i64) (En.int .i64) (fun n0 lo hi => True) (fun n n0 lo hi => .bool (btw n0 lo hi))
@[go_sem] theorem g45_eq {n : Nat} {n0 : Int} {lo : Int} {hi : Int} : g45 n [.int .i64 n0, .int .i64 lo, .int .i64 hi] = ⟨True, .bool (btw n0 lo hi)⟩ := sem3_eq (τ := 0) (τ' := 0) (τ'' := 0) (E := (En.int .i64)) (F := (En.int .i64)) (G := (En.int .i64))
theorem p45 : Pure Try.prog 45 g45 := by
  refine sem3_pure fun τ τ' τ'' n0 lo hi n h2 hpre => ?_
  have hT : Table Try.prog [] := .nil
  have hn0 : n ≠ 0 := by omega
  refine SatP.of_body hT hm Try.func45 s45 o45 h2 (by simp) ?_
  simp (config := {contextual := true, maxSteps := 2000000, implicitDefEqProofs := false}) [c45, go_sem, btw]
/- spec.l00In -/
def c43 : SCode := (.seq (.reg [⟨(some 6), .assign (.const (.bool false)), none⟩])
(.seq (.reg [⟨(some 7), .move (.tmp 0), none⟩,
    ⟨(some 8), .move (.tmp 1), none⟩,
    ⟨(some 9), .binOp .geq 2 (.tmp 7) (.tmp 8) 2, none⟩,
    ⟨(some 10), .move (.tmp 9), none⟩,
    ⟨(some 11), .move (.tmp 0), (some (10, true))⟩,
    ⟨(some 12), .move (.tmp 2), (some (10, true))⟩,
    ⟨(some 13), .binOp .leq 2 (.tmp 11) (.tmp 12) 2, (some (10, true))⟩,
    ⟨(some 14), .pick (.tmp 10) (.tmp 13) (.const (.bool false)), none⟩,
    ⟨(some 6), .assign (.tmp 14), none⟩])
 .ret))
theorem s43 : slimF Try.f43 = some (c43, [.t 6], 15) := by kernel_rfl
theorem o43 : okF [] Try.f43 = true := by kernel_rfl
noncomputable def g43 : Fsem := sem3 (En.int .i64) (En.int .i64) (En.int .i64) (fun n0 lo hi => True) (fun n n0 lo hi => .bool (btw n0 lo hi))
@[go_sem] theorem g43_eq {n : Nat} {n0 : Int} {lo : Int} {hi : Int} : g43 n [.int .i64 n0, .int .i64 lo, .int .i64 hi] = ⟨True, .bool (btw n0 lo hi)⟩ := sem3_eq (τ := 0) (τ' := 0) (τ'' := 0) (E := (En.int .i64)) (F := (En.int .i64)) (G := (En.int .i64))
theorem p43 : Pure Try.prog 43 g43 := by
  refine sem3_pure fun τ τ' τ'' n0 lo hi n h2 hpre => ?_
  have hT : Table Try.prog [] := .nil
  have hn0 : n ≠ 0 := by omega
  refine SatP.of_body hT hm Try.func43 s43 o43 h2 (by simp) ?_
  simp (config := {contextual := true, maxSteps := 2000000, implicitDefEqProofs := false}) [c43, go_sem, btw]
/- impl.isNode -/
def c114 : SCode := (.seq (.reg [⟨(some 2), .assign (.const (.bool false)), none⟩])
(.seq (.reg [⟨(some 3), .move (.tmp 0), none⟩,
    ⟨(some 4), .call ⟨(.value (.func 45)), #[(.tmp 3), (.const (.int .i64 0)), (.const (.int .i64 15))], #[2, 2, 2]⟩, none⟩,
    ⟨(some 2), .assign (.tmp 4), none⟩])
 .ret))
theorem s114 : slimF Try.f114 = some (c114, [.t 2], 5) := by kernel_rfl
theorem o114 : okF [(45, g45)] Try.f114 = true := by kernel_rfl
noncomputable def g114 : Fsem := sem1 (En.int .i64) (fun n0 => True) (fun n n0 => .bool (btw n0 0 15))
@[go_sem] theorem g114_eq {n : Nat} {n0 : Int} : g114 n [.int .i64 n0] = ⟨True, .bool (btw n0 0 15)⟩ := sem1_eq (τ := 0) (E := (En.int .i64))
theorem p114 : Pure Try.prog 114 g114 := by
  refine sem1_pure fun τ n0 n h2 hpre => ?_
  have hT : Table Try.prog [(45, g45)] := (.cons p45 .nil)
  have hn0 : n ≠ 0 := by omega
  refine SatP.of_body hT hm Try.func114 s114 o114 h2 (by simp) ?_
  simp (config := {contextual := true, maxSteps := 2000000, implicitDefEqProofs := false}) [c114, go_sem]
/- impl.isDecidable -/
def c99 : SCode := (.seq (.reg [⟨(some 2), .assign (.const (.bool false)), none⟩])
(.seq (.reg [⟨(some 3), .move (.tmp 0), none⟩,
    ⟨(some 4), .call ⟨(.value (.func 45)), #[(.tmp 3), (.const (.int .i64 2)), (.const (.int .i64 60))], #[2, 2, 2]⟩, none⟩,
    ⟨(some 2), .assign (.tmp 4), none⟩])
 .ret))
theorem s99 : slimF Try.f99 = some (c99, [.t 2], 5) := by kernel_rfl
theorem o99 : okF [(45, g45)] Try.f99 = true := by kernel_rfl
noncomputable def g99 : Fsem := sem1 (En.int .i64) (fun n0 => True) (fun n n0 => .bool (btw n0 2 60))
@[go_sem] theorem g99_eq {n : Nat} {n0 : Int} : g99 n [.int .i64 n0] = ⟨True, .bool (btw n0 2 60)⟩ := sem1_eq (τ := 0) (E := (En.int .i64))
theorem p99 : Pure Try.prog 99 g99 := by
  refine sem1_pure fun τ n0 n h2 hpre => ?_
  have hT : Table Try.prog [(45, g45)] := (.cons p45 .nil)
  have hn0 : n ≠ 0 := by omega
  refine SatP.of_body hT hm Try.func99 s99 o99 h2 (by simp) ?_
  simp (config := {contextual := true, maxSteps := 2000000, implicitDefEqProofs := false}) [c99, go_sem]
/- spec.l21Epoch -/
def c61 : SCode := (.seq (.reg [⟨(some 2), .assign (.const (.bool false)), none⟩])
(.seq (.reg [⟨(some 3), .move (.tmp 0), none⟩,
    ⟨(some 4), .call ⟨(.value (.func 43)), #[(.tmp 3), (.const (.int .i64 2)), (.const (.int .i64 60))], #[2, 2, 2]⟩, none⟩,
    ⟨(some 2), .assign (.tmp 4), none⟩])
 .ret))
theorem s61 : slimF Try.f61 = some (c61, [.t 2], 5) := by kernel_rfl
theorem o61 : okF [(43, g43)] Try.f61 = true := by kernel_rfl
noncomputable def g61 : Fsem := sem1 (En.int .i64) (fun n0 => True) (fun n n0 => .bool (btw n0 2 60))
@[go_sem] theorem g61_eq {n : Nat} {n0 : Int} : g61 n [.int .i64 n0] = ⟨True, .bool (btw n0 2 60)⟩ := sem1_eq (τ := 0) (E := (En.int .i64))
theorem p61 : Pure Try.prog 61 g61 := by
  refine sem1_pure fun τ n0 n h2 hpre => ?_
  have hT : Table Try.prog [(43, g43)] := (.cons p43 .nil)
  have hn0 : n ≠ 0 := by omega
  refine SatP.of_body hT hm Try.func61 s61 o61 h2 (by simp) ?_
  simp (config := {contextual := true, maxSteps := 2000000, implicitDefEqProofs := false}) [c61, go_sem]
/- impl.ballotOk -/
def c100 : SCode := (.seq (.reg [⟨(some 1), .box 49 (.tmp 0), none⟩,
   ⟨(some 2), .assign (.const (.bool false)), none⟩])
(.seq (.reg [⟨(some 3), .load 49 (.tmp 1), none⟩,
    ⟨(some 4), .build 49 #[], none⟩,
    ⟨(some 5), .binOp .eql 49 (.tmp 3) (.tmp 4) 49, none⟩,
    ⟨(some 6), .move (.tmp 5), none⟩,
    ⟨(some 7), .fieldAddr 49 (.tmp 1) 0, (some (6, false))⟩,
    ⟨(some 8), .load 2 (.tmp 7), (some (6, false))⟩,
    ⟨(some 9), .call ⟨(.value (.func 45)), #[(.tmp 8), (.const (.int .i64 1)), (.const (.int .i64 999))], #[2, 2, 2]⟩, (some (6, false))⟩,
    ⟨(some 10), .move (.tmp 9), (some (6, false))⟩,
    ⟨(some 11), .fieldAddr 49 (.tmp 1) 1, (some (10, true))⟩,
    ⟨(some 12), .load 2 (.tmp 11), (some (10, true))⟩,
    ⟨(some 13), .call ⟨(.value (.func 45)), #[(.tmp 12), (.const (.int .i64 0)), (.const (.int .i64 4))], #[2, 2, 2]⟩, (some (10, true))⟩,
    ⟨(some 14), .pick (.tmp 10) (.tmp 13) (.const (.bool false)), (some (6, false))⟩,
    ⟨(some 15), .pick (.tmp 6) (.const (.bool true)) (.tmp 14), none⟩,
    ⟨(some 2), .assign (.tmp 15), none⟩])
 .ret))
theorem s100 : slimF Try.f100 = some (c100, [.t 2], 16) := by kernel_rfl
theorem o100 : okF [(45, g45)] Try.f100 = true := by kernel_rfl
noncomputable def g100 : Fsem := sem1 enBallot (fun b => True) (fun n b => .bool (ballotOk b))
@[go_sem] theorem g100_eq {n : Nat} {b : Ballot} : g100 n [.agg [.int .i64 b.no, .int .i64 b.by_]] = ⟨True, .bool (ballotOk b)⟩ := sem1_eq (τ := 0) (E := enBallot)
theorem p100 : Pure Try.prog 100 g100 := by
  refine sem1_pure fun τ b n h2 hpre => ?_
  have hT : Table Try.prog [(45, g45)] := (.cons p45 .nil)
  have hn0 : n ≠ 0 := by omega
  refine SatP.of_body hT hm Try.func100 s100 o100 h2 (by simp) ?_
  simp (config := {contextual := true, maxSteps := 2000000, implicitDefEqProofs := false}) [c100, go_sem, ballotOk, eqB_Ballot, eqB_Inc, zB, zI] <;> first | done | ac_rfl | grind (splits := 60)
/- spec.l21Ballot -/
def c62 : SCode := (.seq (.reg [⟨(some 1), .box 49 (.tmp 0), none⟩,
   ⟨(some 2), .assign (.const (.bool false)), none⟩])
(.seq (.reg [⟨(some 3), .load 49 (.tmp 1), none⟩,
    ⟨(some 4), .build 49 #[], none⟩,
    ⟨(some 5), .binOp .eql 49 (.tmp 3) (.tmp 4) 49, none⟩,
    ⟨(some 6), .move (.tmp 5), none⟩,
    ⟨(some 7), .fieldAddr 49 (.tmp 1) 0, (some (6, false))⟩,
    ⟨(some 8), .load 2 (.tmp 7), (some (6, false))⟩,
    ⟨(some 9), .call ⟨(.value (.func 43)), #[(.tmp 8), (.const (.int .i64 1)), (.const (.int .i64 999))], #[2, 2, 2]⟩, (some (6, false))⟩,
    ⟨(some 10), .move (.tmp 9), (some (6, false))⟩,
    ⟨(some 11), .fieldAddr 49 (.tmp 1) 1, (some (10, true))⟩,
    ⟨(some 12), .load 2 (.tmp 11), (some (10, true))⟩,
    ⟨(some 13), .call ⟨(.value (.func 43)), #[(.tmp 12), (.const (.int .i64 0)), (.const (.int .i64 4))], #[2, 2, 2]⟩, (some (10, true))⟩,
    ⟨(some 14), .pick (.tmp 10) (.tmp 13) (.const (.bool false)), (some (6, false))⟩,
    ⟨(some 15), .pick (.tmp 6) (.const (.bool true)) (.tmp 14), none⟩,
    ⟨(some 2), .assign (.tmp 15), none⟩])
 .ret))
theorem s62 : slimF Try.f62 = some (c62, [.t 2], 16) := by kernel_rfl
theorem o62 : okF [(43, g43)] Try.f62 = true := by kernel_rfl
noncomputable def g62 : Fsem := sem1 enBallot (fun b => True) (fun n b => .bool (ballotOk b))
@[go_sem] theorem g62_eq {n : Nat} {b : Ballot} : g62 n [.agg [.int .i64 b.no, .int .i64 b.by_]] = ⟨True, .bool (ballotOk b)⟩ := sem1_eq (τ := 0) (E := enBallot)
theorem p62 : Pure Try.prog 62 g62 := by
  refine sem1_pure fun τ b n h2 hpre => ?_
  have hT : Table Try.prog [(43, g43)] := (.cons p43 .nil)
  have hn0 : n ≠ 0 := by omega
  refine SatP.of_body hT hm Try.func62 s62 o62 h2 (by simp) ?_
  simp (config := {contextual := true, maxSteps := 2000000, implicitDefEqProofs := false}) [c62, go_sem, ballotOk, eqB_Ballot, eqB_Inc, zB, zI] <;> first | done | ac_rfl | grind (splits := 60)
/- spec.l21Less -/
def c63 : SCode := (.seq (.reg [⟨(some 2), .box 49 (.tmp 0), none⟩,
   ⟨(some 3), .box 49 (.tmp 1), none⟩,
   ⟨(some 4), .assign (.const (.bool false)), none⟩])
(.seq (.reg [⟨(some 5), .fieldAddr 49 (.tmp 2) 0, none⟩,
    ⟨(some 6), .load 2 (.tmp 5), none⟩,
    ⟨(some 7), .fieldAddr 49 (.tmp 3) 0, none⟩,
    ⟨(some 8), .load 2 (.tmp 7), none⟩,
    ⟨(some 9), .binOp .lss 2 (.tmp 6) (.tmp 8) 2, none⟩,
    ⟨(some 10), .move (.tmp 9), none⟩,
    ⟨(some 11), .fieldAddr 49 (.tmp 2) 0, (some (10, false))⟩,
    ⟨(some 12), .load 2 (.tmp 11), (some (10, false))⟩,
    ⟨(some 13), .fieldAddr 49 (.tmp 3) 0, (some (10, false))⟩,
    ⟨(some 14), .load 2 (.tmp 13), (some (10, false))⟩,
    ⟨(some 15), .binOp .eql 2 (.tmp 12) (.tmp 14) 2, (some (10, false))⟩,
    ⟨(some 16), .move (.tmp 15), (some (10, false))⟩,
    ⟨(some 17), .fieldAddr 49 (.tmp 2) 1, (some (16, true))⟩,
    ⟨(some 18), .load 2 (.tmp 17), (some (16, true))⟩,
    ⟨(some 19), .fieldAddr 49 (.tmp 3) 1, (some (16, true))⟩,
    ⟨(some 20), .load 2 (.tmp 19), (some (16, true))⟩,
    ⟨(some 21), .binOp .lss 2 (.tmp 18) (.tmp 20) 2, (some (16, true))⟩,
    ⟨(some 22), .pick (.tmp 16) (.tmp 21) (.const (.bool false)), (some (10, false))⟩,
    ⟨(some 23), .pick (.tmp 10) (.const (.bool true)) (.tmp 22), none⟩,
    ⟨(some 4), .assign (.tmp 23), none⟩])
 .ret))
theorem s63 : slimF Try.f63 = some (c63, [.t 4], 24) := by kernel_rfl
theorem o63 : okF [] Try.f63 = true := by kernel_rfl
noncomputable def g63 : Fsem := sem2 enBallot enBallot (fun a b => True) (fun n a b => .bool (lessB a b))
@[go_sem] theorem g63_eq {n : Nat} {a : Ballot} {b : Ballot} : g63 n [.agg [.int .i64 a.no, .int .i64 a.by_], .agg [.int .i64 b.no, .int .i64 b.by_]] = ⟨True, .bool (lessB a b)⟩ := sem2_eq (τ := 0) (τ' := 0) (E := enBallot) (F := enBallot)
theorem p63 : Pure Try.prog 63 g63 := by
  refine sem2_pure fun τ τ' a b n h2 hpre => ?_
  have hT : Table Try.prog [] := .nil
  have hn0 : n ≠ 0 := by omega
  refine SatP.of_body hT hm Try.func63 s63 o63 h2 (by simp) ?_
  simp (config := {contextual := true, maxSteps := 2000000, implicitDefEqProofs := false}) [c63, go_sem, lessB] <;> first | done | ac_rfl | grind (splits := 60)
/- cmp.isNaN[int64] -/
def c119 : SCode := (.seq (.reg [⟨(some 2), .assign (.const (.bool false)), none⟩])
(.seq (.reg [⟨(some 3), .move (.tmp 0), none⟩,
    ⟨(some 4), .move (.tmp 0), none⟩,
    ⟨(some 5), .binOp .neq 2 (.tmp 3) (.tmp 4) 2, none⟩,
    ⟨(some 2), .assign (.tmp 5), none⟩])
 .ret))
theorem s119 : slimF Try.f119 = some (c119, [.t 2], 6) := by kernel_rfl
theorem o119 : okF [] Try.f119 = true := by kernel_rfl
noncomputable def g119 : Fsem := sem1 (En.int .i64) (fun x => True) (fun n x => .bool false)
@[go_sem] theorem g119_eq {n : Nat} {x : Int} : g119 n [.int .i64 x] = ⟨True, .bool false⟩ := sem1_eq (τ := 0) (E := (En.int .i64))
theorem p119 : Pure Try.prog 119 g119 := by
  refine sem1_pure fun τ x n h2 hpre => ?_
  have hT : Table Try.prog [] := .nil
  have hn0 : n ≠ 0 := by omega
  refine SatP.of_body hT hm Try.func119 s119 o119 h2 (by simp) ?_
  simp (config := {contextual := true, maxSteps := 2000000, implicitDefEqProofs := false}) [c119, go_sem]
/- cmp.Compare[int64] -/
def c116 : SCode := (.seq (.reg [⟨(some 4), .assign (.const (.int .i64 0)), none⟩])
(.seq (.reg [⟨(some 7), .move (.tmp 0), none⟩,
    ⟨(some 8), .call ⟨(.value (.func 119)), #[(.tmp 7)], #[2]⟩, none⟩,
    ⟨(some 5), .assign (.tmp 8), none⟩])
 (.seq (.reg [⟨(some 9), .move (.tmp 1), none⟩,
     ⟨(some 10), .call ⟨(.value (.func 119)), #[(.tmp 9)], #[2]⟩, none⟩,
     ⟨(some 6), .assign (.tmp 10), none⟩])
  (.seq (.seq (.reg [⟨(some 11), .move (.tmp 5), none⟩])
    (.cond (.tmp 11) (.seq (.seq (.reg [⟨(some 12), .move (.tmp 6), none⟩])
       (.cond (.tmp 12) (.seq (.reg [⟨(some 4), .assign (.const (.int .i64 0)), none⟩])
         .ret)
        .skip))
      (.seq (.reg [⟨(some 4), .assign (.const (.int .i64 (-1))), none⟩])
       .ret))
     .skip))
   (.seq (.seq (.reg [⟨(some 13), .move (.tmp 6), none⟩])
     (.cond (.tmp 13) (.seq (.reg [⟨(some 4), .assign (.const (.int .i64 1)), none⟩])
       .ret)
      .skip))
    (.seq (.seq (.reg [⟨(some 14), .move (.tmp 0), none⟩,
         ⟨(some 15), .move (.tmp 1), none⟩,
         ⟨(some 16), .binOp .lss 2 (.tmp 14) (.tmp 15) 2, none⟩])
      (.cond (.tmp 16) (.seq (.reg [⟨(some 4), .assign (.const (.int .i64 (-1))), none⟩])
        .ret)
       .skip))
     (.seq (.seq (.reg [⟨(some 17), .move (.tmp 0), none⟩,
          ⟨(some 18), .move (.tmp 1), none⟩,
          ⟨(some 19), .binOp .gtr 2 (.tmp 17) (.tmp 18) 2, none⟩])
       (.cond (.tmp 19) (.seq (.reg [⟨(some 4), .assign (.const (.int .i64 1)), none⟩])
         .ret)
        .skip))
      (.seq (.reg [⟨(some 4), .assign (.const (.int .i64 0)), none⟩])
       .ret))))))))
theorem s116 : slimF Try.f116 = some (c116, [.t 4], 20) := by kernel_rfl
theorem o116 : okF [(119, g119)] Try.f116 = true := by kernel_rfl
noncomputable def g116 : Fsem := sem2 (En.int .i64) (En.int .i64) (fun a b => True) (fun n a b => .int .i64 (cmpI a b))
@[go_sem] theorem g116_eq {n : Nat} {a : Int} {b : Int} : g116 n [.int .i64 a, .int .i64 b] = ⟨True, .int .i64 (cmpI a b)⟩ := sem2_eq (τ := 0) (τ' := 0) (E := (En.int .i64)) (F := (En.int .i64))
theorem p116 : Pure Try.prog 116 g116 := by
  refine sem2_pure fun τ τ' a b n h2 hpre => ?_
  have hT : Table Try.prog [(119, g119)] := (.cons p119 .nil)
  have hn0 : n ≠ 0 := by omega
  refine SatP.of_body hT hm Try.func116 s116 o116 h2 (by simp) ?_
  simp (config := {contextual := true, maxSteps := 2000000, implicitDefEqProofs := false}) [c116, go_sem, cmpI] <;> grind
/- cmp.Or[int] -/
def c115 : SCode := (.seq (.reg [⟨(some 2), .assign (.const (.int .i64 0)), none⟩])
(.seq (.reg [⟨(some 3), .assign (.const (.int .i64 0)), none⟩])
 (.seq (.seq (.reg [⟨(some 6), .move (.tmp 0), none⟩,
      ⟨(some 7), .call ⟨(.builtin .len), #[(.tmp 6)], #[145]⟩, none⟩,
      ⟨(some 8), .move (.const (.int .i64 0)), none⟩])
   (.block 0 (.loop (.seq (.reg [⟨(some 9), .binOp .lss 3 (.tmp 8) (.tmp 7) 3, none⟩])
      (.seq (.cond (.tmp 9) .skip
        (.exit 0))
       (.seq (.block 1 (.seq (.reg [⟨(some 10), .indexAddr 145 (.tmp 6) (.tmp 8), none⟩,
             ⟨(some 11), .load 3 (.tmp 10), none⟩,
             ⟨(some 5), .assign (.tmp 11), none⟩])
          (.seq (.reg [⟨(some 12), .move (.tmp 5), none⟩,
              ⟨(some 13), .move (.tmp 3), none⟩,
              ⟨(some 14), .binOp .neq 3 (.tmp 12) (.tmp 13) 3, none⟩])
           (.cond (.tmp 14) (.seq (.reg [⟨(some 15), .move (.tmp 5), none⟩,
                ⟨(some 2), .assign (.tmp 15), none⟩])
             .ret)
            .skip))))
        (.reg [⟨(some 16), .binOp .add 3 (.tmp 8) (.const (.int .i64 1)) 3, none⟩,
           ⟨(some 8), .move (.tmp 16), none⟩])))))))
  (.seq (.reg [⟨(some 17), .move (.tmp 3), none⟩,
      ⟨(some 2), .assign (.tmp 17), none⟩])
   .ret))))
theorem s115 : slimF Try.f115 = some (c115, [.t 2], 18) := by kernel_rfl
theorem o115 : okF [] Try.f115 = true := by kernel_rfl
noncomputable def g115 : Fsem := sem1 (En.int .i64).list (fun l => True) (fun n l => .int .i64 (orI l))
@[go_sem] theorem g115_eq {n τ : Nat} {l : List Int} : g115 n [.sl τ 1 (l.map (AV.int .i64))] = ⟨True, .int .i64 (orI l)⟩ := sem1_eq  (E := (En.int .i64).list)
theorem p115 : Pure Try.prog 115 g115 := by
  refine sem1_pure fun τ l n h2 hpre => ?_
  have hT : Table Try.prog [] := .nil
  have hn0 : n ≠ 0 := by omega
  refine SatP.of_body hT hm Try.func115 s115 o115 h2 (by simp) ?_
  unfold orI
  generalize hr : (l.find? fun x => decide (x ≠ 0)).getD 0 = r
  simp (config := {contextual := true, maxSteps := 2000000, implicitDefEqProofs := false}) [c115, go_sem]
  intro hL
  refine VW_listK hT h2 hm l [3, 6, 7] (fun pre post (b : Unit) => [(8, .int .i64 pre.length)]) (fun pre post (b : Unit) => (post.find? fun x => decide (x ≠ 0)).getD 0 = r) () ?_ ?_ ?_ ?_
  · exact hr
  · simp [SubI, go_sem]
  · intro _ hR
    simp (config := {contextual := true, maxSteps := 2000000, implicitDefEqProofs := false}) [go_sem]
    simp at hR
    grind
  · intro pre x post _ hl hlen hR
    have hln : l.length = pre.length + (post.length + 1) := by rw [← hl]; simp
    have hn : nth (List.map (AV.int .i64) l) (pre.length) = (AV.int .i64) x := by rw [← hl]; simp [go_sem]
    have hw : l.length ≤ maxLen → IntKind.i64.wrap ((pre.length : Int) + 1) = (pre.length : Int) + 1 := fun h => wrap_ok (by omega) (by simp only [maxLen] at h; omega)
    have h3 : (0 : Int) ≤ (pre.length : Int) := by omega
    have h4 : (pre.length : Int) < (l.length : Int) := by omega
    have h5 : ¬ (l.length : Int) ≤ (pre.length : Int) := by omega
    by_cases hx : x = 0
    · simp [List.find?_cons, hx] at hR
      simp (config := {contextual := true, maxSteps := 2000000, implicitDefEqProofs := false}) [go_sem, hx, hL, SubI, hn, hw, h3, h4, h5] <;> grind
    · simp [List.find?_cons, hx] at hR
      simp (config := {contextual := true, maxSteps := 2000000, implicitDefEqProofs := false}) [go_sem, hx, hL, SubI, hn, hw, h3, h4, h5] <;> grind
@[go_sem] theorem g115_two {n τ : Nat} {a b : Int} : g115 n [.sl τ 1 [.int .i64 a, .int .i64 b]] = ⟨True, .int .i64 (orI [a, b])⟩ := g115_eq (l := [a, b])
/- impl.compareBallots -/
def c110 : SCode := (.seq (.reg [⟨(some 2), .box 49 (.tmp 0), none⟩,
   ⟨(some 3), .box 49 (.tmp 1), none⟩,
   ⟨(some 4), .assign (.const (.int .i64 0)), none⟩])
(.seq (.draw [⟨(some 5), .fieldAddr 49 (.tmp 2) 0, none⟩,
    ⟨(some 6), .load 2 (.tmp 5), none⟩,
    ⟨(some 7), .fieldAddr 49 (.tmp 3) 0, none⟩,
    ⟨(some 8), .load 2 (.tmp 7), none⟩,
    ⟨(some 9), .call ⟨(.value (.func 116)), #[(.tmp 6), (.tmp 8)], #[2, 2]⟩, none⟩,
    ⟨(some 10), .fieldAddr 49 (.tmp 2) 1, none⟩,
    ⟨(some 11), .load 2 (.tmp 10), none⟩,
    ⟨(some 12), .fieldAddr 49 (.tmp 3) 1, none⟩,
    ⟨(some 13), .load 2 (.tmp 12), none⟩,
    ⟨(some 14), .call ⟨(.value (.func 116)), #[(.tmp 11), (.tmp 13)], #[2, 2]⟩, none⟩,
    ⟨(some 15), .buildSlice 145 2 #[(0, (.tmp 9)), (1, (.tmp 14))], none⟩,
    ⟨(some 16), .call ⟨(.value (.func 115)), #[(.tmp 15)], #[145]⟩, none⟩,
    ⟨(some 4), .assign (.tmp 16), none⟩] [[], [0], [], [2], [0, 1, 2, 3], [], [5], [], [7], [0, 1, 2, 3, 4, 5, 6, 7, 8], [0, 1, 2, 3, 4, 5, 6, 7, 8, 9], [0, 1, 2, 3, 4, 5, 6, 7, 8, 9, 10], [0, 1, 2, 3, 4, 5, 6, 7, 8, 9, 10, 11]])
 .ret))
theorem s110 : slimF Try.f110 = some (c110, [.t 4], 17) := by kernel_rfl
theorem o110 : okF [(116, g116), (115, g115)] Try.f110 = true := by kernel_rfl
noncomputable def g110 : Fsem := sem2 enBallot enBallot (fun a b => True) (fun n a b => .int .i64 (cmpB a b))
@[go_sem] theorem g110_eq {n : Nat} {a : Ballot} {b : Ballot} : g110 n [.agg [.int .i64 a.no, .int .i64 a.by_], .agg [.int .i64 b.no, .int .i64 b.by_]] = ⟨True, .int .i64 (cmpB a b)⟩ := sem2_eq (τ := 0) (τ' := 0) (E := enBallot) (F := enBallot)
theorem p110 : Pure Try.prog 110 g110 := by
  refine sem2_pure fun τ τ' a b n h2 hpre => ?_
  have hT : Table Try.prog [(116, g116), (115, g115)] := (.cons p116 (.cons p115 .nil))
  have hn0 : n ≠ 0 := by omega
  refine SatP.of_body hT hm Try.func110 s110 o110 h2 (by simp) ?_
  simp (config := {contextual := true, maxSteps := 2000000, implicitDefEqProofs := false}) [c110, go_sem, cmpB]
/- impl.lessBallot -/
def c102 : SCode := (.seq (.reg [⟨(some 2), .box 49 (.tmp 0), none⟩,
   ⟨(some 3), .box 49 (.tmp 1), none⟩,
   ⟨(some 4), .assign (.const (.bool false)), none⟩])
(.seq (.reg [⟨(some 5), .load 49 (.tmp 2), none⟩,
    ⟨(some 6), .load 49 (.tmp 3), none⟩,
    ⟨(some 7), .call ⟨(.value (.func 110)), #[(.tmp 5), (.tmp 6)], #[49, 49]⟩, none⟩,
    ⟨(some 8), .binOp .lss 3 (.tmp 7) (.const (.int .i64 0)) 3, none⟩,
    ⟨(some 4), .assign (.tmp 8), none⟩])
 .ret))
theorem s102 : slimF Try.f102 = some (c102, [.t 4], 9) := by kernel_rfl
theorem o102 : okF [(110, g110)] Try.f102 = true := by kernel_rfl
noncomputable def g102 : Fsem := sem2 enBallot enBallot (fun a b => True) (fun n a b => .bool (lessB a b))
@[go_sem] theorem g102_eq {n : Nat} {a : Ballot} {b : Ballot} : g102 n [.agg [.int .i64 a.no, .int .i64 a.by_], .agg [.int .i64 b.no, .int .i64 b.by_]] = ⟨True, .bool (lessB a b)⟩ := sem2_eq (τ := 0) (τ' := 0) (E := enBallot) (F := enBallot)
theorem p102 : Pure Try.prog 102 g102 := by
  refine sem2_pure fun τ τ' a b n h2 hpre => ?_
  have hT : Table Try.prog [(110, g110)] := (.cons p110 .nil)
  have hn0 : n ≠ 0 := by omega
  refine SatP.of_body hT hm Try.func102 s102 o102 h2 (by simp) ?_
  rw [← cmpB_less]
  simp (config := {contextual := true, maxSteps := 2000000, implicitDefEqProofs := false}) [c102, go_sem]
/- impl.IncOk -/
def c109 : SCode := (.seq (.reg [⟨(some 1), .box 51 (.tmp 0), none⟩,
   ⟨(some 2), .assign (.const (.bool false)), none⟩])
(.seq (.seq (.reg [⟨(some 3), .fieldAddr 51 (.tmp 1) 0, none⟩,
     ⟨(some 4), .load 2 (.tmp 3), none⟩,
     ⟨(some 5), .call ⟨(.value (.func 45)), #[(.tmp 4), (.const (.int .i64 2)), (.const (.int .i64 60))], #[2, 2, 2]⟩, none⟩,
     ⟨(some 6), .unOp .not 4 (.tmp 5), none⟩,
     ⟨(some 7), .move (.tmp 6), none⟩,
     ⟨(some 8), .fieldAddr 51 (.tmp 1) 1, (some (7, false))⟩,
     ⟨(some 9), .load 2 (.tmp 8), (some (7, false))⟩,
     ⟨(some 10), .call ⟨(.value (.func 45)), #[(.tmp 9), (.const (.int .i64 1)), (.const (.int .i64 6))], #[2, 2, 2]⟩, (some (7, false))⟩,
     ⟨(some 11), .unOp .not 4 (.tmp 10), (some (7, false))⟩,
     ⟨(some 12), .pick (.tmp 7) (.const (.bool true)) (.tmp 11), none⟩,
     ⟨(some 13), .move (.tmp 12), none⟩,
     ⟨(some 14), .fieldAddr 51 (.tmp 1) 2, (some (13, false))⟩,
     ⟨(some 15), .load 2 (.tmp 14), (some (13, false))⟩,
     ⟨(some 16), .call ⟨(.value (.func 114)), #[(.tmp 15)], #[2]⟩, (some (13, false))⟩,
     ⟨(some 17), .unOp .not 4 (.tmp 16), (some (13, false))⟩,
     ⟨(some 18), .pick (.tmp 13) (.const (.bool true)) (.tmp 17), none⟩,
     ⟨(some 19), .move (.tmp 18), none⟩,
     ⟨(some 20), .fieldAddr 51 (.tmp 1) 1, (some (19, false))⟩,
     ⟨(some 21), .load 2 (.tmp 20), (some (19, false))⟩,
     ⟨(some 22), .binOp .eql 2 (.tmp 21) (.const (.int .i64 6)) 2, (some (19, false))⟩,
     ⟨(some 23), .move (.tmp 22), (some (19, false))⟩,
     ⟨(some 24), .fieldAddr 51 (.tmp 1) 2, (some (23, true))⟩,
     ⟨(some 25), .load 2 (.tmp 24), (some (23, true))⟩,
     ⟨(some 26), .binOp .neq 2 (.tmp 25) (.const (.int .i64 0)) 2, (some (23, true))⟩,
     ⟨(some 27), .pick (.tmp 23) (.tmp 26) (.const (.bool false)), (some (19, false))⟩,
     ⟨(some 28), .pick (.tmp 19) (.const (.bool true)) (.tmp 27), none⟩])
  (.cond (.tmp 28) (.seq (.reg [⟨(some 2), .assign (.const (.bool false)), none⟩])
    .ret)
   .skip))
 (.seq (.seq (.reg [⟨(some 29), .fieldAddr 51 (.tmp 1) 1, none⟩,
      ⟨(some 30), .load 2 (.tmp 29), none⟩,
      ⟨(some 31), .binOp .eql 2 (.tmp 30) (.const (.int .i64 5)) 2, none⟩])
   (.cond (.tmp 31) (.seq (.reg [⟨(some 32), .fieldAddr 51 (.tmp 1) 3, none⟩,
        ⟨(some 33), .load 2 (.tmp 32), none⟩,
        ⟨(some 34), .call ⟨(.value (.func 45)), #[(.tmp 33), (.const (.int .i64 0)), (.const (.int .i64 8))], #[2, 2, 2]⟩, none⟩,
        ⟨(some 2), .assign (.tmp 34), none⟩])
     .ret)
    .skip))
  (.seq (.reg [⟨(some 35), .fieldAddr 51 (.tmp 1) 3, none⟩,
      ⟨(some 36), .load 2 (.tmp 35), none⟩,
      ⟨(some 37), .binOp .eql 2 (.tmp 36) (.const (.int .i64 0)) 2, none⟩,
      ⟨(some 2), .assign (.tmp 37), none⟩])
   .ret))))
theorem s109 : slimF Try.f109 = some (c109, [.t 2], 38) := by kernel_rfl
theorem o109 : okF [(45, g45), (114, g114)] Try.f109 = true := by kernel_rfl
noncomputable def g109 : Fsem := sem1 enInc (fun i => True) (fun n i => .bool (incOk i))
@[go_sem] theorem g109_eq {n : Nat} {i : Inc} : g109 n [.agg [.int .i64 i.epoch, .int .i64 i.kind, .int .i64 i.a, .int .i64 i.b]] = ⟨True, .bool (incOk i)⟩ := sem1_eq (τ := 0) (E := enInc)
theorem p109 : Pure Try.prog 109 g109 := by
  refine sem1_pure fun τ i n h2 hpre => ?_
  have hT : Table Try.prog [(45, g45), (114, g114)] := (.cons p45 (.cons p114 .nil))
  have hn0 : n ≠ 0 := by omega
  refine SatP.of_body hT hm Try.func109 s109 o109 h2 (by simp) ?_
  simp (config := {contextual := true, maxSteps := 2000000, implicitDefEqProofs := false}) [c109, go_sem, incOk, btw] <;> grind
/- spec.l11Inc -/
def c108 : SCode := (.seq (.reg [⟨(some 1), .box 51 (.tmp 0), none⟩,
   ⟨(some 2), .assign (.const (.bool false)), none⟩])
(.seq (.seq (.reg [⟨(some 3), .fieldAddr 51 (.tmp 1) 0, none⟩,
     ⟨(some 4), .load 2 (.tmp 3), none⟩,
     ⟨(some 5), .call ⟨(.value (.func 43)), #[(.tmp 4), (.const (.int .i64 2)), (.const (.int .i64 60))], #[2, 2, 2]⟩, none⟩,
     ⟨(some 6), .unOp .not 4 (.tmp 5), none⟩,
     ⟨(some 7), .move (.tmp 6), none⟩,
     ⟨(some 8), .fieldAddr 51 (.tmp 1) 1, (some (7, false))⟩,
     ⟨(some 9), .load 2 (.tmp 8), (some (7, false))⟩,
     ⟨(some 10), .call ⟨(.value (.func 43)), #[(.tmp 9), (.const (.int .i64 1)), (.const (.int .i64 6))], #[2, 2, 2]⟩, (some (7, false))⟩,
     ⟨(some 11), .unOp .not 4 (.tmp 10), (some (7, false))⟩,
     ⟨(some 12), .pick (.tmp 7) (.const (.bool true)) (.tmp 11), none⟩])
  (.cond (.tmp 12) (.seq (.reg [⟨(some 2), .assign (.const (.bool false)), none⟩])
    .ret)
   .skip))
 (.seq (.seq (.reg [⟨(some 13), .fieldAddr 51 (.tmp 1) 1, none⟩,
      ⟨(some 14), .load 2 (.tmp 13), none⟩])
   (.block 0 (.seq (.reg [⟨(some 16), .binOp .eql 2 (.tmp 14) (.const (.int .i64 6)) 2, none⟩,
        ⟨(some 15), .assign (.tmp 16), none⟩])
     (.cond (.tmp 15) (.seq (.reg [⟨(some 17), .fieldAddr 51 (.tmp 1) 2, none⟩,
          ⟨(some 18), .load 2 (.tmp 17), none⟩,
          ⟨(some 19), .binOp .eql 2 (.tmp 18) (.const (.int .i64 0)) 2, none⟩,
          ⟨(some 20), .move (.tmp 19), none⟩,
          ⟨(some 21), .fieldAddr 51 (.tmp 1) 3, (some (20, true))⟩,
          ⟨(some 22), .load 2 (.tmp 21), (some (20, true))⟩,
          ⟨(some 23), .binOp .eql 2 (.tmp 22) (.const (.int .i64 0)) 2, (some (20, true))⟩,
          ⟨(some 24), .pick (.tmp 20) (.tmp 23) (.const (.bool false)), none⟩,
          ⟨(some 2), .assign (.tmp 24), none⟩])
       .ret)
      (.seq (.reg [⟨(some 26), .binOp .eql 2 (.tmp 14) (.const (.int .i64 5)) 2, none⟩,
          ⟨(some 25), .assign (.tmp 26), none⟩])
       (.cond (.tmp 25) (.seq (.reg [⟨(some 27), .fieldAddr 51 (.tmp 1) 2, none⟩,
            ⟨(some 28), .load 2 (.tmp 27), none⟩,
            ⟨(some 29), .call ⟨(.value (.func 43)), #[(.tmp 28), (.const (.int .i64 0)), (.const (.int .i64 15))], #[2, 2, 2]⟩, none⟩,
            ⟨(some 30), .move (.tmp 29), none⟩,
            ⟨(some 31), .fieldAddr 51 (.tmp 1) 3, (some (30, true))⟩,
            ⟨(some 32), .load 2 (.tmp 31), (some (30, true))⟩,
            ⟨(some 33), .call ⟨(.value (.func 43)), #[(.tmp 32), (.const (.int .i64 0)), (.const (.int .i64 8))], #[2, 2, 2]⟩, (some (30, true))⟩,
            ⟨(some 34), .pick (.tmp 30) (.tmp 33) (.const (.bool false)), none⟩,
            ⟨(some 2), .assign (.tmp 34), none⟩])
         .ret)
        .skip))))))
  (.seq (.reg [⟨(some 35), .fieldAddr 51 (.tmp 1) 2, none⟩,
      ⟨(some 36), .load 2 (.tmp 35), none⟩,
      ⟨(some 37), .call ⟨(.value (.func 43)), #[(.tmp 36), (.const (.int .i64 0)), (.const (.int .i64 15))], #[2, 2, 2]⟩, none⟩,
      ⟨(some 38), .move (.tmp 37), none⟩,
      ⟨(some 39), .fieldAddr 51 (.tmp 1) 3, (some (38, true))⟩,
      ⟨(some 40), .load 2 (.tmp 39), (some (38, true))⟩,
      ⟨(some 41), .binOp .eql 2 (.tmp 40) (.const (.int .i64 0)) 2, (some (38, true))⟩,
      ⟨(some 42), .pick (.tmp 38) (.tmp 41) (.const (.bool false)), none⟩,
      ⟨(some 2), .assign (.tmp 42), none⟩])
   .ret))))
theorem s108 : slimF Try.f108 = some (c108, [.t 2], 43) := by kernel_rfl
theorem o108 : okF [(43, g43)] Try.f108 = true := by kernel_rfl
noncomputable def g108 : Fsem := sem1 enInc (fun i => True) (fun n i => .bool (incOk i))
@[go_sem] theorem g108_eq {n : Nat} {i : Inc} : g108 n [.agg [.int .i64 i.epoch, .int .i64 i.kind, .int .i64 i.a, .int .i64 i.b]] = ⟨True, .bool (incOk i)⟩ := sem1_eq (τ := 0) (E := enInc)
theorem p108 : Pure Try.prog 108 g108 := by
  refine sem1_pure fun τ i n h2 hpre => ?_
  have hT : Table Try.prog [(43, g43)] := (.cons p43 .nil)
  have hn0 : n ≠ 0 := by omega
  refine SatP.of_body hT hm Try.func108 s108 o108 h2 (by simp) ?_
  simp (config := {contextual := true, maxSteps := 2000000, implicitDefEqProofs := false}) [c108, go_sem, incOk, btw] <;> grind
/- spec.IncOk -/
def c90 : SCode := (.seq (.reg [⟨(some 1), .box 51 (.tmp 0), none⟩,
   ⟨(some 2), .assign (.const (.bool false)), none⟩])
(.seq (.reg [⟨(some 3), .load 51 (.tmp 1), none⟩,
    ⟨(some 4), .call ⟨(.value (.func 108)), #[(.tmp 3)], #[51]⟩, none⟩,
    ⟨(some 2), .assign (.tmp 4), none⟩])
 .ret))
theorem s90 : slimF Try.f90 = some (c90, [.t 2], 5) := by kernel_rfl
theorem o90 : okF [(108, g108)] Try.f90 = true := by kernel_rfl
noncomputable def g90 : Fsem := sem1 enInc (fun i => True) (fun n i => .bool (incOk i))
@[go_sem] theorem g90_eq {n : Nat} {i : Inc} : g90 n [.agg [.int .i64 i.epoch, .int .i64 i.kind, .int .i64 i.a, .int .i64 i.b]] = ⟨True, .bool (incOk i)⟩ := sem1_eq (τ := 0) (E := enInc)
theorem p90 : Pure Try.prog 90 g90 := by
  refine sem1_pure fun τ i n h2 hpre => ?_
  have hT : Table Try.prog [(108, g108)] := (.cons p108 .nil)
  have hn0 : n ≠ 0 := by omega
  refine SatP.of_body hT hm Try.func90 s90 o90 h2 (by simp) ?_
  simp (config := {contextual := true, maxSteps := 2000000, implicitDefEqProofs := false}) [c90, go_sem]
/- impl.incFor -/
def c101 : SCode := (.seq (.reg [⟨(some 2), .box 51 (.tmp 0), none⟩,
   ⟨(some 4), .assign (.const (.bool false)), none⟩])
(.seq (.reg [⟨(some 5), .load 51 (.tmp 2), none⟩,
    ⟨(some 6), .call ⟨(.value (.func 109)), #[(.tmp 5)], #[51]⟩, none⟩,
    ⟨(some 7), .move (.tmp 6), none⟩,
    ⟨(some 8), .fieldAddr 51 (.tmp 2) 0, (some (7, true))⟩,
    ⟨(some 9), .load 2 (.tmp 8), (some (7, true))⟩,
    ⟨(some 10), .move (.tmp 1), (some (7, true))⟩,
    ⟨(some 11), .binOp .eql 2 (.tmp 9) (.tmp 10) 2, (some (7, true))⟩,
    ⟨(some 12), .pick (.tmp 7) (.tmp 11) (.const (.bool false)), none⟩,
    ⟨(some 4), .assign (.tmp 12), none⟩])
 .ret))
theorem s101 : slimF Try.f101 = some (c101, [.t 4], 13) := by kernel_rfl
theorem o101 : okF [(109, g109)] Try.f101 = true := by kernel_rfl
noncomputable def g101 : Fsem := sem2 enInc (En.int .i64) (fun i e => True) (fun n i e => .bool (incFor i e))
@[go_sem] theorem g101_eq {n : Nat} {i : Inc} {e : Int} : g101 n [.agg [.int .i64 i.epoch, .int .i64 i.kind, .int .i64 i.a, .int .i64 i.b], .int .i64 e] = ⟨True, .bool (incFor i e)⟩ := sem2_eq (τ := 0) (τ' := 0) (E := enInc) (F := (En.int .i64))
theorem p101 : Pure Try.prog 101 g101 := by
  refine sem2_pure fun τ τ' i e n h2 hpre => ?_
  have hT : Table Try.prog [(109, g109)] := (.cons p109 .nil)
  have hn0 : n ≠ 0 := by omega
  refine SatP.of_body hT hm Try.func101 s101 o101 h2 (by simp) ?_
  simp (config := {contextual := true, maxSteps := 2000000, implicitDefEqProofs := false}) [c101, go_sem, incFor]
/- impl.incWith -/
def c105 : SCode := (.seq (.reg [⟨(some 3), .box 51 (.tmp 0), none⟩,
   ⟨(some 4), .box 49 (.tmp 1), none⟩,
   ⟨(some 6), .assign (.const (.bool false)), none⟩])
(.seq (.seq (.reg [⟨(some 7), .load 49 (.tmp 4), none⟩,
     ⟨(some 8), .build 49 #[], none⟩,
     ⟨(some 9), .binOp .eql 49 (.tmp 7) (.tmp 8) 49, none⟩])
  (.cond (.tmp 9) (.seq (.reg [⟨(some 10), .load 51 (.tmp 3), none⟩,
       ⟨(some 11), .build 51 #[], none⟩,
       ⟨(some 12), .binOp .eql 51 (.tmp 10) (.tmp 11) 51, none⟩,
       ⟨(some 6), .assign (.tmp 12), none⟩])
    .ret)
   .skip))
 (.seq (.reg [⟨(some 13), .load 51 (.tmp 3), none⟩,
     ⟨(some 14), .move (.tmp 2), none⟩,
     ⟨(some 15), .call ⟨(.value (.func 101)), #[(.tmp 13), (.tmp 14)], #[51, 2]⟩, none⟩,
     ⟨(some 6), .assign (.tmp 15), none⟩])
  .ret)))
theorem s105 : slimF Try.f105 = some (c105, [.t 6], 16) := by kernel_rfl
theorem o105 : okF [(101, g101)] Try.f105 = true := by kernel_rfl
noncomputable def g105 : Fsem := sem3 enInc enBallot (En.int .i64) (fun i acc e => True) (fun n i acc e => .bool (incWith i acc e))
@[go_sem] theorem g105_eq {n : Nat} {i : Inc} {acc : Ballot} {e : Int} : g105 n [.agg [.int .i64 i.epoch, .int .i64 i.kind, .int .i64 i.a, .int .i64 i.b], .agg [.int .i64 acc.no, .int .i64 acc.by_], .int .i64 e] = ⟨True, .bool (incWith i acc e)⟩ := sem3_eq (τ := 0) (τ' := 0) (τ'' := 0) (E := enInc) (F := enBallot) (G := (En.int .i64))
theorem p105 : Pure Try.prog 105 g105 := by
  refine sem3_pure fun τ τ' τ'' i acc e n h2 hpre => ?_
  have hT : Table Try.prog [(101, g101)] := (.cons p101 .nil)
  have hn0 : n ≠ 0 := by omega
  refine SatP.of_body hT hm Try.func105 s105 o105 h2 (by simp) ?_
  cases hz : eqB acc zB <;> simp only [eqB_Ballot, zB] at hz <;> simp (config := {contextual := true, maxSteps := 2000000, implicitDefEqProofs := false}) [c105, go_sem, incWith, hz, eqB_Ballot, eqB_Inc, zB, zI] <;> first | done | ac_rfl | grind (splits := 60)
/- spec.l21Value -/
def c64 : SCode := (.seq (.reg [⟨(some 3), .box 49 (.tmp 0), none⟩,
   ⟨(some 4), .box 51 (.tmp 1), none⟩,
   ⟨(some 6), .assign (.const (.bool false)), none⟩])
(.seq (.seq (.reg [⟨(some 7), .load 49 (.tmp 3), none⟩,
     ⟨(some 8), .build 49 #[], none⟩,
     ⟨(some 9), .binOp .eql 49 (.tmp 7) (.tmp 8) 49, none⟩])
  (.cond (.tmp 9) (.seq (.reg [⟨(some 10), .load 51 (.tmp 4), none⟩,
       ⟨(some 11), .build 51 #[], none⟩,
       ⟨(some 12), .binOp .eql 51 (.tmp 10) (.tmp 11) 51, none⟩,
       ⟨(some 6), .assign (.tmp 12), none⟩])
    .ret)
   .skip))
 (.seq (.reg [⟨(some 13), .load 51 (.tmp 4), none⟩,
     ⟨(some 14), .call ⟨(.value (.func 90)), #[(.tmp 13)], #[51]⟩, none⟩,
     ⟨(some 15), .move (.tmp 14), none⟩,
     ⟨(some 16), .fieldAddr 51 (.tmp 4) 0, (some (15, true))⟩,
     ⟨(some 17), .load 2 (.tmp 16), (some (15, true))⟩,
     ⟨(some 18), .move (.tmp 2), (some (15, true))⟩,
     ⟨(some 19), .binOp .eql 2 (.tmp 17) (.tmp 18) 2, (some (15, true))⟩,
     ⟨(some 20), .pick (.tmp 15) (.tmp 19) (.const (.bool false)), none⟩,
     ⟨(some 6), .assign (.tmp 20), none⟩])
  .ret)))
theorem s64 : slimF Try.f64 = some (c64, [.t 6], 21) := by kernel_rfl
theorem o64 : okF [(90, g90)] Try.f64 = true := by kernel_rfl
noncomputable def g64 : Fsem := sem3 enBallot enInc (En.int .i64) (fun acc i e => True) (fun n acc i e => .bool (incWith i acc e))
@[go_sem] theorem g64_eq {n : Nat} {acc : Ballot} {i : Inc} {e : Int} : g64 n [.agg [.int .i64 acc.no, .int .i64 acc.by_], .agg [.int .i64 i.epoch, .int .i64 i.kind, .int .i64 i.a, .int .i64 i.b], .int .i64 e] = ⟨True, .bool (incWith i acc e)⟩ := sem3_eq (τ := 0) (τ' := 0) (τ'' := 0) (E := enBallot) (F := enInc) (G := (En.int .i64))
theorem p64 : Pure Try.prog 64 g64 := by
  refine sem3_pure fun τ τ' τ'' acc i e n h2 hpre => ?_
  have hT : Table Try.prog [(90, g90)] := (.cons p90 .nil)
  have hn0 : n ≠ 0 := by omega
  refine SatP.of_body hT hm Try.func64 s64 o64 h2 (by simp) ?_
  cases hz : eqB acc zB <;> simp only [eqB_Ballot, zB] at hz <;> simp (config := {contextual := true, maxSteps := 2000000, implicitDefEqProofs := false}) [c64, go_sem, incWith, incFor, hz, eqB_Ballot, eqB_Inc, zB, zI] <;> first | done | ac_rfl | grind (splits := 60)
/- spec.l21Full -/
def c91 : SCode := (.seq (.reg [⟨(some 1), .box 49 (.tmp 0), none⟩,
   ⟨(some 2), .assign (.const (.bool false)), none⟩])
(.seq (.reg [⟨(some 3), .load 49 (.tmp 1), none⟩,
    ⟨(some 4), .call ⟨(.value (.func 62)), #[(.tmp 3)], #[49]⟩, none⟩,
    ⟨(some 5), .move (.tmp 4), none⟩,
    ⟨(some 6), .load 49 (.tmp 1), (some (5, true))⟩,
    ⟨(some 7), .build 49 #[], (some (5, true))⟩,
    ⟨(some 8), .binOp .neq 49 (.tmp 6) (.tmp 7) 49, (some (5, true))⟩,
    ⟨(some 9), .pick (.tmp 5) (.tmp 8) (.const (.bool false)), none⟩,
    ⟨(some 2), .assign (.tmp 9), none⟩])
 .ret))
theorem s91 : slimF Try.f91 = some (c91, [.t 2], 10) := by kernel_rfl
theorem o91 : okF [(62, g62)] Try.f91 = true := by kernel_rfl
noncomputable def g91 : Fsem := sem1 enBallot (fun b => True) (fun n b => .bool (ballotOk b && !eqB b zB))
@[go_sem] theorem g91_eq {n : Nat} {b : Ballot} : g91 n [.agg [.int .i64 b.no, .int .i64 b.by_]] = ⟨True, .bool (ballotOk b && !eqB b zB)⟩ := sem1_eq (τ := 0) (E := enBallot)
theorem p91 : Pure Try.prog 91 g91 := by
  refine sem1_pure fun τ b n h2 hpre => ?_
  have hT : Table Try.prog [(62, g62)] := (.cons p62 .nil)
  have hn0 : n ≠ 0 := by omega
  refine SatP.of_body hT hm Try.func91 s91 o91 h2 (by simp) ?_
  simp (config := {contextual := true, maxSteps := 2000000, implicitDefEqProofs := false}) [c91, go_sem, eqB_Ballot, eqB_Inc, zB, zI] <;> first | done | ac_rfl | grind (splits := 60)
/- spec.l21Most -/
def c93 : SCode := (.seq (.reg [⟨(some 4), .assign (.const (.bool false)), none⟩])
(.seq (.reg [⟨(some 5), .move (.tmp 0), none⟩,
    ⟨(some 6), .call ⟨(.builtin .len), #[(.tmp 5)], #[52]⟩, none⟩,
    ⟨(some 7), .binOp .mul 2 (.const (.int .i64 2)) (.tmp 6) 2, none⟩,
    ⟨(some 8), .move (.tmp 1), none⟩,
    ⟨(some 9), .binOp .gtr 2 (.tmp 7) (.tmp 8) 2, none⟩,
    ⟨(some 4), .assign (.tmp 9), none⟩])
 .ret))
theorem s93 : slimF Try.f93 = some (c93, [.t 4], 10) := by kernel_rfl
theorem o93 : okF [] Try.f93 = true := by kernel_rfl
noncomputable def g93 : Fsem := sem2 (En.int .i64).list (En.int .i64) (fun l many => True) (fun n l many => .bool (maj many l))
@[go_sem] theorem g93_eq {n τ : Nat} {l : List Int} {many : Int} : g93 n [.sl τ 1 (l.map (AV.int .i64)), .int .i64 many] = ⟨True, .bool (maj many l)⟩ := sem2_eq (τ' := 0) (E := (En.int .i64).list) (F := (En.int .i64))
theorem p93 : Pure Try.prog 93 g93 := by
  refine sem2_pure fun τ τ' l many n h2 hpre => ?_
  have hT : Table Try.prog [] := .nil
  have hn0 : n ≠ 0 := by omega
  refine SatP.of_body hT hm Try.func93 s93 o93 h2 (by simp) ?_
  simp (config := {contextual := true, maxSteps := 2000000, implicitDefEqProofs := false}) [c93, go_sem, maj]
/- (impl.Mon).majority -/
def c104 : SCode := (.seq (.reg [⟨(some 2), .box 56 (.tmp 0), none⟩,
   ⟨(some 4), .assign (.const (.bool false)), none⟩])
(.seq (.reg [⟨(some 5), .move (.tmp 1), none⟩,
    ⟨(some 6), .call ⟨(.builtin .len), #[(.tmp 5)], #[52]⟩, none⟩,
    ⟨(some 7), .binOp .mul 2 (.const (.int .i64 2)) (.tmp 6) 2, none⟩,
    ⟨(some 8), .fieldAddr 56 (.tmp 2) 1, none⟩,
    ⟨(some 9), .load 2 (.tmp 8), none⟩,
    ⟨(some 10), .binOp .gtr 2 (.tmp 7) (.tmp 9) 2, none⟩,
    ⟨(some 4), .assign (.tmp 10), none⟩])
 .ret))
theorem s104 : slimF Try.f104 = some (c104, [.t 4], 11) := by kernel_rfl
theorem o104 : okF [] Try.f104 = true := by kernel_rfl
noncomputable def g104 : Fsem := sem2 enMon (En.int .i64).list (fun m l => True) (fun n m l => .bool (maj m.many l))
@[go_sem] theorem g104_eq {n τ τ' : Nat} {m : Mon} {l : List Int} : g104 n [.agg [.int .i64 m.id, .int .i64 m.many, .sl τ 9 (m.slots.map (enSlot.av τ)), .int .i64 m.try_.epoch, .int .i64 m.try_.ballot.no, .int .i64 m.try_.ballot.by_, .int .i64 m.try_.inc.epoch, .int .i64 m.try_.inc.kind, .int .i64 m.try_.inc.a, .int .i64 m.try_.inc.b, .int .i64 m.try_.highest.no, .int .i64 m.try_.highest.by_, .sl τ 1 (m.try_.promises.map (AV.int .i64)), .sl τ 1 (m.try_.accepts.map (AV.int .i64)), .bool m.try_.decided], .sl τ' 1 (l.map (AV.int .i64))] = ⟨True, .bool (maj m.many l)⟩ := sem2_eq  (E := enMon) (F := (En.int .i64).list)
theorem p104 : Pure Try.prog 104 g104 := by
  refine sem2_pure fun τ τ' m l n h2 hpre => ?_
  have hT : Table Try.prog [] := .nil
  have hn0 : n ≠ 0 := by omega
  refine SatP.of_body hT hm Try.func104 s104 o104 h2 (by simp) ?_
  simp (config := {contextual := true, maxSteps := 2000000, implicitDefEqProofs := false}) [c104, go_sem, maj]
end Go.Ve
