/-
  No cell of these rows narrows 'for every input' (looked for: loops, veiled, ifaces, maps, wideKeys, modest, calm, conditions, laid).
  DERIVED. THE GIVEN ROWS OF THIS SEAT. 4 by the template 'for every input the law returns true; each argument reads behind the call as it read before'; 0 by the template 'total and deterministic' (their statements: YtidfijaobkaalaaGreatTotals.lean).
  GIVEN WITH THE SEED: the statements are not yours to turn. If you find one false, say at which input.
  Laid BY PROGRAM, IN A SANDBOX (cutbox-rows.mjs): the forced cells as the released guide's own fill.sh prints them over the translation 07a17f2b7a4f646f… (all of the seat's roots in one cut). By AI agents, Wed Nov 11 2026. No macro, syntax, notation, axiom, sorry.
-/
import Derived.Test.YtidfijaobkaalaaGreatChecked
import GoSem.Claim
import GoSem.ClaimJoined
import GoSem.ClaimMapViews
import Derived.JoinedTies
import Derived.KernelRfl
namespace Go.Proofs.YtidfijaobkaalaaGreat
/- THE CELL 'sum', in the pinned program and in every row, IS THE sha256 OF THE DUMP (.gsa) THAT YtidfijaobkaalaaGreatProg.lean LOADS. Nothing in Lean hashes anything: it is a label: what it is worth is what the hold of that sum in a sandbox is worth. -/
noncomputable def Tryz.pinned : Pinned := { name := "ytidfijaobkaalaagreat", sum := "07a17f2b7a4f646f2db9b250d40b0d3be12a0b7b24269f469f76a733529ca190", checked := Tryz.checked }
namespace Rows
def none {H : Type} : Left H := { results := [], args := [] }

/-- 'laws.FnExactExcepted': WHATEVER THE INPUT: true; the input reads as it did. -/
def fnExactExceptedSpec : ChangeSpec := { name := "fnExactExcepted", fn := fun _ => fun
  | [d1, d2, d3, d4, d5] => { results := [.lit (.bool true)], args := [d1, d2, d3, d4, d5] }
  | _ => none }
def fnExactExceptedRow : OpenClaim := { program := "ytidfijaobkaalaagreat", sum := "07a17f2b7a4f646f2db9b250d40b0d3be12a0b7b24269f469f76a733529ca190", func := "loop.example/g00849/laws.FnExactExcepted", spec := "fnExactExcepted", unfollowed := true, recurses := true, apart := false }
def FnExactExceptedSaid : Prop := fnExactExceptedRow.holds Tryz.pinned (OpenSpec.ofChange fnExactExceptedSpec)

/-- ITS FALSE NEIGHBOUR: 'it returns false'. Refute it at one input. -/
def fnExactExceptedWrong : ChangeSpec := { name := "fnExactExcepted", fn := fun _ => fun
  | [d1, d2, d3, d4, d5] => { results := [.lit (.bool false)], args := [d1, d2, d3, d4, d5] }
  | _ => none }
def FnExactExceptedWrongFalsely : Prop := fnExactExceptedRow.holds Tryz.pinned (OpenSpec.ofChange fnExactExceptedWrong)

/-- 'laws.FnExactActingOf': WHATEVER THE INPUT: true; the input reads as it did. -/
def fnExactActingOfSpec : ChangeSpec := { name := "fnExactActingOf", fn := fun _ => fun
  | [d1, d2] => { results := [.lit (.bool true)], args := [d1, d2] }
  | _ => none }
def fnExactActingOfRow : OpenClaim := { program := "ytidfijaobkaalaagreat", sum := "07a17f2b7a4f646f2db9b250d40b0d3be12a0b7b24269f469f76a733529ca190", func := "loop.example/g00849/laws.FnExactActingOf", spec := "fnExactActingOf", unfollowed := true, recurses := true, apart := false }
def FnExactActingOfSaid : Prop := fnExactActingOfRow.holds Tryz.pinned (OpenSpec.ofChange fnExactActingOfSpec)

/-- ITS FALSE NEIGHBOUR: 'it returns false'. Refute it at one input. -/
def fnExactActingOfWrong : ChangeSpec := { name := "fnExactActingOf", fn := fun _ => fun
  | [d1, d2] => { results := [.lit (.bool false)], args := [d1, d2] }
  | _ => none }
def FnExactActingOfWrongFalsely : Prop := fnExactActingOfRow.holds Tryz.pinned (OpenSpec.ofChange fnExactActingOfWrong)

/-- 'laws.FnExactMayServe': WHATEVER THE INPUT: true; the input reads as it did. -/
def fnExactMayServeSpec : ChangeSpec := { name := "fnExactMayServe", fn := fun _ => fun
  | [d1, d2] => { results := [.lit (.bool true)], args := [d1, d2] }
  | _ => none }
def fnExactMayServeRow : OpenClaim := { program := "ytidfijaobkaalaagreat", sum := "07a17f2b7a4f646f2db9b250d40b0d3be12a0b7b24269f469f76a733529ca190", func := "loop.example/g00849/laws.FnExactMayServe", spec := "fnExactMayServe", unfollowed := true, recurses := true, apart := false }
def FnExactMayServeSaid : Prop := fnExactMayServeRow.holds Tryz.pinned (OpenSpec.ofChange fnExactMayServeSpec)

/-- ITS FALSE NEIGHBOUR: 'it returns false'. Refute it at one input. -/
def fnExactMayServeWrong : ChangeSpec := { name := "fnExactMayServe", fn := fun _ => fun
  | [d1, d2] => { results := [.lit (.bool false)], args := [d1, d2] }
  | _ => none }
def FnExactMayServeWrongFalsely : Prop := fnExactMayServeRow.holds Tryz.pinned (OpenSpec.ofChange fnExactMayServeWrong)

/-- 'laws.FnActing': WHATEVER THE INPUT: true; the input reads as it did. -/
def fnActingSpec : ChangeSpec := { name := "fnActing", fn := fun _ => fun
  | [d1, d2] => { results := [.lit (.bool true)], args := [d1, d2] }
  | _ => none }
def fnActingRow : OpenClaim := { program := "ytidfijaobkaalaagreat", sum := "07a17f2b7a4f646f2db9b250d40b0d3be12a0b7b24269f469f76a733529ca190", func := "loop.example/g00849/laws.FnActing", spec := "fnActing", unfollowed := true, recurses := true, apart := false }
def FnActingSaid : Prop := fnActingRow.holds Tryz.pinned (OpenSpec.ofChange fnActingSpec)

/-- ITS FALSE NEIGHBOUR: 'it returns false'. Refute it at one input. -/
def fnActingWrong : ChangeSpec := { name := "fnActing", fn := fun _ => fun
  | [d1, d2] => { results := [.lit (.bool false)], args := [d1, d2] }
  | _ => none }
def FnActingWrongFalsely : Prop := fnActingRow.holds Tryz.pinned (OpenSpec.ofChange fnActingWrong)

/- THE SECOND FORM. 'bulk': how many values and letters a reading holds, each counted each time it is reached (what is shared counts as often as it is met; a slice's spare places count too). A statement '..UptoSaid' is the law's where the arguments, and the package variables that the reading takes, are together of bulk at most 1048576: NARROWER than '..Said'. Prove '..Said' where nothing that the law and all that it calls make is longer than what came in: it says more and counts as full. Else prove '..UptoSaid'. A law counts once. -/
mutual
def uptoBulk {H : Type} : DataW H → Nat
  | .lit (.string bytes) => bytes.length + 1
  | .lit _ => 1
  | .nil => 1
  | .ptr d => uptoBulk d + 1
  | .slice elems spare => uptoBulkAll elems + uptoBulkAll spare + 1
  | .agg parts => uptoBulkAll parts + 1
  | .iface _ d => uptoBulk d + 1
  | .map entries => uptoBulkEntries entries + 1
  | .held _ => 1
def uptoBulkAll {H : Type} : List (DataW H) → Nat
  | [] => 0
  | d :: r => uptoBulk d + uptoBulkAll r
def uptoBulkEntries {H : Type} : List (Lit × DataW H) → Nat
  | [] => 0
  | x :: r => uptoBulkEntry x + uptoBulkEntries r
def uptoBulkEntry {H : Type} : Lit × DataW H → Nat
  | (.string bytes, d) => bytes.length + uptoBulk d + 1
  | (_, d) => uptoBulk d + 1
 end
def uptoSmall : (H : Type) → List (DataW H) → Bool := fun _ ds => decide (uptoBulkAll ds ≤ 1048576)
def OpenSpec.upto (s : _root_.Go.ChangeSpec) : _root_.Go.OpenSpec := { _root_.Go.OpenSpec.ofChange s with cond := some uptoSmall }

/-- 'laws.FnExactExcepted', WHERE WHAT IT READS IS OF BULK AT MOST 1048576: true; the input reads as it did. -/
def fnExactExceptedUptoRow : OpenClaim := { program := "ytidfijaobkaalaagreat", sum := "07a17f2b7a4f646f2db9b250d40b0d3be12a0b7b24269f469f76a733529ca190", func := "loop.example/g00849/laws.FnExactExcepted", spec := "fnExactExcepted", unfollowed := true, recurses := true, apart := false, narrowed := true }
def FnExactExceptedUptoSaid : Prop := fnExactExceptedUptoRow.holds Tryz.pinned (OpenSpec.upto fnExactExceptedSpec)

/-- 'laws.FnExactActingOf', WHERE WHAT IT READS IS OF BULK AT MOST 1048576: true; the input reads as it did. -/
def fnExactActingOfUptoRow : OpenClaim := { program := "ytidfijaobkaalaagreat", sum := "07a17f2b7a4f646f2db9b250d40b0d3be12a0b7b24269f469f76a733529ca190", func := "loop.example/g00849/laws.FnExactActingOf", spec := "fnExactActingOf", unfollowed := true, recurses := true, apart := false, narrowed := true }
def FnExactActingOfUptoSaid : Prop := fnExactActingOfUptoRow.holds Tryz.pinned (OpenSpec.upto fnExactActingOfSpec)

/-- 'laws.FnExactMayServe', WHERE WHAT IT READS IS OF BULK AT MOST 1048576: true; the input reads as it did. -/
def fnExactMayServeUptoRow : OpenClaim := { program := "ytidfijaobkaalaagreat", sum := "07a17f2b7a4f646f2db9b250d40b0d3be12a0b7b24269f469f76a733529ca190", func := "loop.example/g00849/laws.FnExactMayServe", spec := "fnExactMayServe", unfollowed := true, recurses := true, apart := false, narrowed := true }
def FnExactMayServeUptoSaid : Prop := fnExactMayServeUptoRow.holds Tryz.pinned (OpenSpec.upto fnExactMayServeSpec)

/-- 'laws.FnActing', WHERE WHAT IT READS IS OF BULK AT MOST 1048576: true; the input reads as it did. -/
def fnActingUptoRow : OpenClaim := { program := "ytidfijaobkaalaagreat", sum := "07a17f2b7a4f646f2db9b250d40b0d3be12a0b7b24269f469f76a733529ca190", func := "loop.example/g00849/laws.FnActing", spec := "fnActing", unfollowed := true, recurses := true, apart := false, narrowed := true }
def FnActingUptoSaid : Prop := fnActingUptoRow.holds Tryz.pinned (OpenSpec.upto fnActingSpec)

end Rows
end Go.Proofs.YtidfijaobkaalaaGreat
