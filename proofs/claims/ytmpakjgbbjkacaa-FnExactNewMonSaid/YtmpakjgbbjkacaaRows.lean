/-
  No cell of these rows narrows 'for every input' (looked for: loops, veiled, ifaces, maps, wideKeys, modest, calm, conditions, laid).
  DERIVED. THE GIVEN ROWS OF THIS SEAT. 6 by the template 'for every input the law returns true; each argument reads behind the call as it read before'; 0 by the template 'total and deterministic' (their statements: YtmpakjgbbjkacaaTotals.lean).
  GIVEN WITH THE SEED: the statements are not yours to turn. If you find one false, say at which input.
  Laid BY PROGRAM, IN A SANDBOX (cutbox-rows.mjs): the forced cells as the released guide's own fill.sh prints them over the translation 75fdf14dbd0e55ec… (all of the seat's roots in one cut). By AI agents, Wed Nov 11 2026. No macro, syntax, notation, axiom, sorry.
-/
import Derived.Test.YtmpakjgbbjkacaaChecked
import GoSem.Claim
import GoSem.ClaimJoined
import GoSem.ClaimMapViews
import Derived.JoinedTies
import Derived.KernelRfl
namespace Go.Proofs.Ytmpakjgbbjkacaa
/- THE CELL 'sum', in the pinned program and in every row, IS THE sha256 OF THE DUMP (.gsa) THAT YtmpakjgbbjkacaaProg.lean LOADS. Nothing in Lean hashes anything: it is a label: what it is worth is what the hold of that sum in a sandbox is worth. -/
noncomputable def Try.pinned : Pinned := { name := "ytmpakjgbbjkacaa", sum := "75fdf14dbd0e55ec548320b84bfcc63fa56f95a7bc8bbc12cb535b8fc03a70aa", checked := Try.checked }
namespace Rows
def none {H : Type} : Left H := { results := [], args := [] }

/-- 'laws.FnExactWideBody': WHATEVER THE INPUT: true; the input reads as it did. -/
def fnExactWideBodySpec : ChangeSpec := { name := "fnExactWideBody", fn := fun _ => fun
  | [d] => { results := [.lit (.bool true)], args := [d] }
  | _ => none }
def fnExactWideBodyRow : OpenClaim := { program := "ytmpakjgbbjkacaa", sum := "75fdf14dbd0e55ec548320b84bfcc63fa56f95a7bc8bbc12cb535b8fc03a70aa", func := "loop.example/g00849/laws.FnExactWideBody", spec := "fnExactWideBody", inPlace := ["internal/abi.NoEscape"], unfollowed := true, recurses := true, apart := false }
def FnExactWideBodySaid : Prop := fnExactWideBodyRow.holds Try.pinned (OpenSpec.ofChange fnExactWideBodySpec)

/-- ITS FALSE NEIGHBOUR: 'it returns false'. Refute it at one input. -/
def fnExactWideBodyWrong : ChangeSpec := { name := "fnExactWideBody", fn := fun _ => fun
  | [d] => { results := [.lit (.bool false)], args := [d] }
  | _ => none }
def FnExactWideBodyWrongFalsely : Prop := fnExactWideBodyRow.holds Try.pinned (OpenSpec.ofChange fnExactWideBodyWrong)

/-- 'laws.FnExactReadWide': WHATEVER THE INPUT: true; the input reads as it did. -/
def fnExactReadWideSpec : ChangeSpec := { name := "fnExactReadWide", fn := fun _ => fun
  | [d1, d2, d3] => { results := [.lit (.bool true)], args := [d1, d2, d3] }
  | _ => none }
def fnExactReadWideRow : OpenClaim := { program := "ytmpakjgbbjkacaa", sum := "75fdf14dbd0e55ec548320b84bfcc63fa56f95a7bc8bbc12cb535b8fc03a70aa", func := "loop.example/g00849/laws.FnExactReadWide", spec := "fnExactReadWide", inPlace := ["internal/abi.NoEscape"], unfollowed := true, recurses := true, apart := false }
def FnExactReadWideSaid : Prop := fnExactReadWideRow.holds Try.pinned (OpenSpec.ofChange fnExactReadWideSpec)

/-- ITS FALSE NEIGHBOUR: 'it returns false'. Refute it at one input. -/
def fnExactReadWideWrong : ChangeSpec := { name := "fnExactReadWide", fn := fun _ => fun
  | [d1, d2, d3] => { results := [.lit (.bool false)], args := [d1, d2, d3] }
  | _ => none }
def FnExactReadWideWrongFalsely : Prop := fnExactReadWideRow.holds Try.pinned (OpenSpec.ofChange fnExactReadWideWrong)

/-- 'laws.FnExactTakeDelta': WHATEVER THE INPUT: true; the input reads as it did. -/
def fnExactTakeDeltaSpec : ChangeSpec := { name := "fnExactTakeDelta", fn := fun _ => fun
  | [d1, d2] => { results := [.lit (.bool true)], args := [d1, d2] }
  | _ => none }
def fnExactTakeDeltaRow : OpenClaim := { program := "ytmpakjgbbjkacaa", sum := "75fdf14dbd0e55ec548320b84bfcc63fa56f95a7bc8bbc12cb535b8fc03a70aa", func := "loop.example/g00849/laws.FnExactTakeDelta", spec := "fnExactTakeDelta", unfollowed := true, recurses := true, apart := false }
def FnExactTakeDeltaSaid : Prop := fnExactTakeDeltaRow.holds Try.pinned (OpenSpec.ofChange fnExactTakeDeltaSpec)

/-- ITS FALSE NEIGHBOUR: 'it returns false'. Refute it at one input. -/
def fnExactTakeDeltaWrong : ChangeSpec := { name := "fnExactTakeDelta", fn := fun _ => fun
  | [d1, d2] => { results := [.lit (.bool false)], args := [d1, d2] }
  | _ => none }
def FnExactTakeDeltaWrongFalsely : Prop := fnExactTakeDeltaRow.holds Try.pinned (OpenSpec.ofChange fnExactTakeDeltaWrong)

/-- 'laws.FnExactNewMon': WHATEVER THE INPUT: true; the input reads as it did. -/
def fnExactNewMonSpec : ChangeSpec := { name := "fnExactNewMon", fn := fun _ => fun
  | [d1, d2] => { results := [.lit (.bool true)], args := [d1, d2] }
  | _ => none }
def fnExactNewMonRow : OpenClaim := { program := "ytmpakjgbbjkacaa", sum := "75fdf14dbd0e55ec548320b84bfcc63fa56f95a7bc8bbc12cb535b8fc03a70aa", func := "loop.example/g00849/laws.FnExactNewMon", spec := "fnExactNewMon", apart := false }
def FnExactNewMonSaid : Prop := fnExactNewMonRow.holds Try.pinned (OpenSpec.ofChange fnExactNewMonSpec)

/-- ITS FALSE NEIGHBOUR: 'it returns false'. Refute it at one input. -/
def fnExactNewMonWrong : ChangeSpec := { name := "fnExactNewMon", fn := fun _ => fun
  | [d1, d2] => { results := [.lit (.bool false)], args := [d1, d2] }
  | _ => none }
def FnExactNewMonWrongFalsely : Prop := fnExactNewMonRow.holds Try.pinned (OpenSpec.ofChange fnExactNewMonWrong)

/-- 'laws.FnExactMonOk': WHATEVER THE INPUT: true; the input reads as it did. -/
def fnExactMonOkSpec : ChangeSpec := { name := "fnExactMonOk", fn := fun _ => fun
  | [d] => { results := [.lit (.bool true)], args := [d] }
  | _ => none }
def fnExactMonOkRow : OpenClaim := { program := "ytmpakjgbbjkacaa", sum := "75fdf14dbd0e55ec548320b84bfcc63fa56f95a7bc8bbc12cb535b8fc03a70aa", func := "loop.example/g00849/laws.FnExactMonOk", spec := "fnExactMonOk", unfollowed := true, recurses := true, apart := false }
def FnExactMonOkSaid : Prop := fnExactMonOkRow.holds Try.pinned (OpenSpec.ofChange fnExactMonOkSpec)

/-- ITS FALSE NEIGHBOUR: 'it returns false'. Refute it at one input. -/
def fnExactMonOkWrong : ChangeSpec := { name := "fnExactMonOk", fn := fun _ => fun
  | [d] => { results := [.lit (.bool false)], args := [d] }
  | _ => none }
def FnExactMonOkWrongFalsely : Prop := fnExactMonOkRow.holds Try.pinned (OpenSpec.ofChange fnExactMonOkWrong)

/-- 'laws.FnExactDecided': WHATEVER THE INPUT: true; the input reads as it did. -/
def fnExactDecidedSpec : ChangeSpec := { name := "fnExactDecided", fn := fun _ => fun
  | [d] => { results := [.lit (.bool true)], args := [d] }
  | _ => none }
def fnExactDecidedRow : OpenClaim := { program := "ytmpakjgbbjkacaa", sum := "75fdf14dbd0e55ec548320b84bfcc63fa56f95a7bc8bbc12cb535b8fc03a70aa", func := "loop.example/g00849/laws.FnExactDecided", spec := "fnExactDecided", unfollowed := true, recurses := true, apart := false }
def FnExactDecidedSaid : Prop := fnExactDecidedRow.holds Try.pinned (OpenSpec.ofChange fnExactDecidedSpec)

/-- ITS FALSE NEIGHBOUR: 'it returns false'. Refute it at one input. -/
def fnExactDecidedWrong : ChangeSpec := { name := "fnExactDecided", fn := fun _ => fun
  | [d] => { results := [.lit (.bool false)], args := [d] }
  | _ => none }
def FnExactDecidedWrongFalsely : Prop := fnExactDecidedRow.holds Try.pinned (OpenSpec.ofChange fnExactDecidedWrong)

/- THE SECOND FORM. 'bulk': how many values and letters a reading holds, each counted each time it is reached (what is shared counts as often as it is met; a slice's spare places count too). A statement '..UptoSaid' is the law's where the arguments, and the package variables that the reading takes, are together of bulk at most 1048576: NARROWER than '..Said'. Prove '..Said' where nothing that the law and all that it calls make is longer than what came in: it says more and counts as full. Else prove '..UptoSaid'. A law counts once. -/
mutual
def uptoBulk {H : Type} : DataW H → Nat
  | .lit (.string bytes) => bytes.length + 1
  | .lit _ => 1
  | .nil => 1
  | .ptr d => uptoBulk d + 1
  | .slice elems spare => uptoBulkAll elems + uptoBulkAll spare + 1
  | .agg parts => uptoBulkAll parts + 1
  | .iface _ d => uptoBulk d + 1
  | .map entries => uptoBulkEntries entries + 1
  | .held _ => 1
def uptoBulkAll {H : Type} : List (DataW H) → Nat
  | [] => 0
  | d :: r => uptoBulk d + uptoBulkAll r
def uptoBulkEntries {H : Type} : List (Lit × DataW H) → Nat
  | [] => 0
  | x :: r => uptoBulkEntry x + uptoBulkEntries r
def uptoBulkEntry {H : Type} : Lit × DataW H → Nat
  | (.string bytes, d) => bytes.length + uptoBulk d + 1
  | (_, d) => uptoBulk d + 1
 end
def uptoSmall : (H : Type) → List (DataW H) → Bool := fun _ ds => decide (uptoBulkAll ds ≤ 1048576)
def OpenSpec.upto (s : _root_.Go.ChangeSpec) : _root_.Go.OpenSpec := { _root_.Go.OpenSpec.ofChange s with cond := some uptoSmall }

/-- 'laws.FnExactWideBody', WHERE WHAT IT READS IS OF BULK AT MOST 1048576: true; the input reads as it did. -/
def fnExactWideBodyUptoRow : OpenClaim := { program := "ytmpakjgbbjkacaa", sum := "75fdf14dbd0e55ec548320b84bfcc63fa56f95a7bc8bbc12cb535b8fc03a70aa", func := "loop.example/g00849/laws.FnExactWideBody", spec := "fnExactWideBody", inPlace := ["internal/abi.NoEscape"], unfollowed := true, recurses := true, apart := false, narrowed := true }
def FnExactWideBodyUptoSaid : Prop := fnExactWideBodyUptoRow.holds Try.pinned (OpenSpec.upto fnExactWideBodySpec)

/-- 'laws.FnExactReadWide', WHERE WHAT IT READS IS OF BULK AT MOST 1048576: true; the input reads as it did. -/
def fnExactReadWideUptoRow : OpenClaim := { program := "ytmpakjgbbjkacaa", sum := "75fdf14dbd0e55ec548320b84bfcc63fa56f95a7bc8bbc12cb535b8fc03a70aa", func := "loop.example/g00849/laws.FnExactReadWide", spec := "fnExactReadWide", inPlace := ["internal/abi.NoEscape"], unfollowed := true, recurses := true, apart := false, narrowed := true }
def FnExactReadWideUptoSaid : Prop := fnExactReadWideUptoRow.holds Try.pinned (OpenSpec.upto fnExactReadWideSpec)

/-- 'laws.FnExactTakeDelta', WHERE WHAT IT READS IS OF BULK AT MOST 1048576: true; the input reads as it did. -/
def fnExactTakeDeltaUptoRow : OpenClaim := { program := "ytmpakjgbbjkacaa", sum := "75fdf14dbd0e55ec548320b84bfcc63fa56f95a7bc8bbc12cb535b8fc03a70aa", func := "loop.example/g00849/laws.FnExactTakeDelta", spec := "fnExactTakeDelta", unfollowed := true, recurses := true, apart := false, narrowed := true }
def FnExactTakeDeltaUptoSaid : Prop := fnExactTakeDeltaUptoRow.holds Try.pinned (OpenSpec.upto fnExactTakeDeltaSpec)

/-- 'laws.FnExactNewMon', WHERE WHAT IT READS IS OF BULK AT MOST 1048576: true; the input reads as it did. -/
def fnExactNewMonUptoRow : OpenClaim := { program := "ytmpakjgbbjkacaa", sum := "75fdf14dbd0e55ec548320b84bfcc63fa56f95a7bc8bbc12cb535b8fc03a70aa", func := "loop.example/g00849/laws.FnExactNewMon", spec := "fnExactNewMon", apart := false, narrowed := true }
def FnExactNewMonUptoSaid : Prop := fnExactNewMonUptoRow.holds Try.pinned (OpenSpec.upto fnExactNewMonSpec)

/-- 'laws.FnExactMonOk', WHERE WHAT IT READS IS OF BULK AT MOST 1048576: true; the input reads as it did. -/
def fnExactMonOkUptoRow : OpenClaim := { program := "ytmpakjgbbjkacaa", sum := "75fdf14dbd0e55ec548320b84bfcc63fa56f95a7bc8bbc12cb535b8fc03a70aa", func := "loop.example/g00849/laws.FnExactMonOk", spec := "fnExactMonOk", unfollowed := true, recurses := true, apart := false, narrowed := true }
def FnExactMonOkUptoSaid : Prop := fnExactMonOkUptoRow.holds Try.pinned (OpenSpec.upto fnExactMonOkSpec)

/-- 'laws.FnExactDecided', WHERE WHAT IT READS IS OF BULK AT MOST 1048576: true; the input reads as it did. -/
def fnExactDecidedUptoRow : OpenClaim := { program := "ytmpakjgbbjkacaa", sum := "75fdf14dbd0e55ec548320b84bfcc63fa56f95a7bc8bbc12cb535b8fc03a70aa", func := "loop.example/g00849/laws.FnExactDecided", spec := "fnExactDecided", unfollowed := true, recurses := true, apart := false, narrowed := true }
def FnExactDecidedUptoSaid : Prop := fnExactDecidedUptoRow.holds Try.pinned (OpenSpec.upto fnExactDecidedSpec)

end Rows
end Go.Proofs.Ytmpakjgbbjkacaa
