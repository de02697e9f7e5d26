/-
  No cell of these rows narrows 'for every input' (looked for: loops, veiled, ifaces, maps, wideKeys, modest, calm, conditions, laid).
  DERIVED. THE GIVEN ROWS OF THIS SEAT. 10 by the template 'for every input the law returns true; each argument reads behind the call as it read before'; 0 by the template 'total and deterministic' (their statements: YtchajonibjacaaaTotals.lean).
  GIVEN WITH THE SEED: the statements are not yours to turn. If you find one false, say at which input.
  Laid BY PROGRAM, IN A SANDBOX (cutbox-rows.mjs): the forced cells as the released guide's own fill.sh prints them over the translation 04aae970ce2a8947… (all of the seat's roots in one cut). By AI agents, Wed Nov 11 2026. No macro, syntax, notation, axiom, sorry.
-/
import Derived.Test.YtchajonibjacaaaChecked
import GoSem.Claim
import GoSem.ClaimJoined
import GoSem.ClaimMapViews
import Derived.JoinedTies
import Derived.KernelRfl
namespace Go.Proofs.Ytchajonibjacaaa
/- THE CELL 'sum', in the pinned program and in every row, IS THE sha256 OF THE DUMP (.gsa) THAT YtchajonibjacaaaProg.lean LOADS. Nothing in Lean hashes anything: it is a label: what it is worth is what the hold of that sum in a sandbox is worth. -/
noncomputable def Try.pinned : Pinned := { name := "ytchajonibjacaaa", sum := "04aae970ce2a8947833570f6436380e843b10d08d0cc17afe0fc87373d0c7a91", checked := Try.checked }
namespace Rows
def none {H : Type} : Left H := { results := [], args := [] }

/-- 'laws.FnExactNodeOk': WHATEVER THE INPUT: true; the input reads as it did. -/
def fnExactNodeOkSpec : ChangeSpec := { name := "fnExactNodeOk", fn := fun _ => fun
  | [d] => { results := [.lit (.bool true)], args := [d] }
  | _ => none }
def fnExactNodeOkRow : OpenClaim := { program := "ytchajonibjacaaa", sum := "04aae970ce2a8947833570f6436380e843b10d08d0cc17afe0fc87373d0c7a91", func := "loop.example/g00849/laws.FnExactNodeOk", spec := "fnExactNodeOk", apart := false }
def FnExactNodeOkSaid : Prop := fnExactNodeOkRow.holds Try.pinned (OpenSpec.ofChange fnExactNodeOkSpec)

/-- ITS FALSE NEIGHBOUR: 'it returns false'. Refute it at one input. -/
def fnExactNodeOkWrong : ChangeSpec := { name := "fnExactNodeOk", fn := fun _ => fun
  | [d] => { results := [.lit (.bool false)], args := [d] }
  | _ => none }
def FnExactNodeOkWrongFalsely : Prop := fnExactNodeOkRow.holds Try.pinned (OpenSpec.ofChange fnExactNodeOkWrong)

/-- 'laws.FnExactClientOk': WHATEVER THE INPUT: true; the input reads as it did. -/
def fnExactClientOkSpec : ChangeSpec := { name := "fnExactClientOk", fn := fun _ => fun
  | [d] => { results := [.lit (.bool true)], args := [d] }
  | _ => none }
def fnExactClientOkRow : OpenClaim := { program := "ytchajonibjacaaa", sum := "04aae970ce2a8947833570f6436380e843b10d08d0cc17afe0fc87373d0c7a91", func := "loop.example/g00849/laws.FnExactClientOk", spec := "fnExactClientOk", apart := false }
def FnExactClientOkSaid : Prop := fnExactClientOkRow.holds Try.pinned (OpenSpec.ofChange fnExactClientOkSpec)

/-- ITS FALSE NEIGHBOUR: 'it returns false'. Refute it at one input. -/
def fnExactClientOkWrong : ChangeSpec := { name := "fnExactClientOk", fn := fun _ => fun
  | [d] => { results := [.lit (.bool false)], args := [d] }
  | _ => none }
def FnExactClientOkWrongFalsely : Prop := fnExactClientOkRow.holds Try.pinned (OpenSpec.ofChange fnExactClientOkWrong)

/-- 'laws.FnExactReads': WHATEVER THE INPUT: true; the input reads as it did. -/
def fnExactReadsSpec : ChangeSpec := { name := "fnExactReads", fn := fun _ => fun
  | [d] => { results := [.lit (.bool true)], args := [d] }
  | _ => none }
def fnExactReadsRow : OpenClaim := { program := "ytchajonibjacaaa", sum := "04aae970ce2a8947833570f6436380e843b10d08d0cc17afe0fc87373d0c7a91", func := "loop.example/g00849/laws.FnExactReads", spec := "fnExactReads", apart := false }
def FnExactReadsSaid : Prop := fnExactReadsRow.holds Try.pinned (OpenSpec.ofChange fnExactReadsSpec)

/-- ITS FALSE NEIGHBOUR: 'it returns false'. Refute it at one input. -/
def fnExactReadsWrong : ChangeSpec := { name := "fnExactReads", fn := fun _ => fun
  | [d] => { results := [.lit (.bool false)], args := [d] }
  | _ => none }
def FnExactReadsWrongFalsely : Prop := fnExactReadsRow.holds Try.pinned (OpenSpec.ofChange fnExactReadsWrong)

/-- 'laws.FnExactIncOk': WHATEVER THE INPUT: true; the input reads as it did. -/
def fnExactIncOkSpec : ChangeSpec := { name := "fnExactIncOk", fn := fun _ => fun
  | [d] => { results := [.lit (.bool true)], args := [d] }
  | _ => none }
def fnExactIncOkRow : OpenClaim := { program := "ytchajonibjacaaa", sum := "04aae970ce2a8947833570f6436380e843b10d08d0cc17afe0fc87373d0c7a91", func := "loop.example/g00849/laws.FnExactIncOk", spec := "fnExactIncOk", apart := false }
def FnExactIncOkSaid : Prop := fnExactIncOkRow.holds Try.pinned (OpenSpec.ofChange fnExactIncOkSpec)

/-- ITS FALSE NEIGHBOUR: 'it returns false'. Refute it at one input. -/
def fnExactIncOkWrong : ChangeSpec := { name := "fnExactIncOk", fn := fun _ => fun
  | [d] => { results := [.lit (.bool false)], args := [d] }
  | _ => none }
def FnExactIncOkWrongFalsely : Prop := fnExactIncOkRow.holds Try.pinned (OpenSpec.ofChange fnExactIncOkWrong)

/-- 'laws.FnExactVerLess': WHATEVER THE INPUT: true; the input reads as it did. -/
def fnExactVerLessSpec : ChangeSpec := { name := "fnExactVerLess", fn := fun _ => fun
  | [d1, d2] => { results := [.lit (.bool true)], args := [d1, d2] }
  | _ => none }
def fnExactVerLessRow : OpenClaim := { program := "ytchajonibjacaaa", sum := "04aae970ce2a8947833570f6436380e843b10d08d0cc17afe0fc87373d0c7a91", func := "loop.example/g00849/laws.FnExactVerLess", spec := "fnExactVerLess", apart := false }
def FnExactVerLessSaid : Prop := fnExactVerLessRow.holds Try.pinned (OpenSpec.ofChange fnExactVerLessSpec)

/-- ITS FALSE NEIGHBOUR: 'it returns false'. Refute it at one input. -/
def fnExactVerLessWrong : ChangeSpec := { name := "fnExactVerLess", fn := fun _ => fun
  | [d1, d2] => { results := [.lit (.bool false)], args := [d1, d2] }
  | _ => none }
def FnExactVerLessWrongFalsely : Prop := fnExactVerLessRow.holds Try.pinned (OpenSpec.ofChange fnExactVerLessWrong)

/-- 'laws.FnVers': WHATEVER THE INPUT: true; the input reads as it did. -/
def fnVersSpec : ChangeSpec := { name := "fnVers", fn := fun _ => fun
  | [d1, d2] => { results := [.lit (.bool true)], args := [d1, d2] }
  | _ => none }
def fnVersRow : OpenClaim := { program := "ytchajonibjacaaa", sum := "04aae970ce2a8947833570f6436380e843b10d08d0cc17afe0fc87373d0c7a91", func := "loop.example/g00849/laws.FnVers", spec := "fnVers", apart := false }
def FnVersSaid : Prop := fnVersRow.holds Try.pinned (OpenSpec.ofChange fnVersSpec)

/-- ITS FALSE NEIGHBOUR: 'it returns false'. Refute it at one input. -/
def fnVersWrong : ChangeSpec := { name := "fnVers", fn := fun _ => fun
  | [d1, d2] => { results := [.lit (.bool false)], args := [d1, d2] }
  | _ => none }
def FnVersWrongFalsely : Prop := fnVersRow.holds Try.pinned (OpenSpec.ofChange fnVersWrong)

/-- 'laws.FnExactOpOk': WHATEVER THE INPUT: true; the input reads as it did. -/
def fnExactOpOkSpec : ChangeSpec := { name := "fnExactOpOk", fn := fun _ => fun
  | [d1, d2] => { results := [.lit (.bool true)], args := [d1, d2] }
  | _ => none }
def fnExactOpOkRow : OpenClaim := { program := "ytchajonibjacaaa", sum := "04aae970ce2a8947833570f6436380e843b10d08d0cc17afe0fc87373d0c7a91", func := "loop.example/g00849/laws.FnExactOpOk", spec := "fnExactOpOk", apart := false }
def FnExactOpOkSaid : Prop := fnExactOpOkRow.holds Try.pinned (OpenSpec.ofChange fnExactOpOkSpec)

/-- ITS FALSE NEIGHBOUR: 'it returns false'. Refute it at one input. -/
def fnExactOpOkWrong : ChangeSpec := { name := "fnExactOpOk", fn := fun _ => fun
  | [d1, d2] => { results := [.lit (.bool false)], args := [d1, d2] }
  | _ => none }
def FnExactOpOkWrongFalsely : Prop := fnExactOpOkRow.holds Try.pinned (OpenSpec.ofChange fnExactOpOkWrong)

/-- 'laws.FnExactChunkOk': WHATEVER THE INPUT: true; the input reads as it did. -/
def fnExactChunkOkSpec : ChangeSpec := { name := "fnExactChunkOk", fn := fun _ => fun
  | [d] => { results := [.lit (.bool true)], args := [d] }
  | _ => none }
def fnExactChunkOkRow : OpenClaim := { program := "ytchajonibjacaaa", sum := "04aae970ce2a8947833570f6436380e843b10d08d0cc17afe0fc87373d0c7a91", func := "loop.example/g00849/laws.FnExactChunkOk", spec := "fnExactChunkOk", apart := false }
def FnExactChunkOkSaid : Prop := fnExactChunkOkRow.holds Try.pinned (OpenSpec.ofChange fnExactChunkOkSpec)

/-- ITS FALSE NEIGHBOUR: 'it returns false'. Refute it at one input. -/
def fnExactChunkOkWrong : ChangeSpec := { name := "fnExactChunkOk", fn := fun _ => fun
  | [d] => { results := [.lit (.bool false)], args := [d] }
  | _ => none }
def FnExactChunkOkWrongFalsely : Prop := fnExactChunkOkRow.holds Try.pinned (OpenSpec.ofChange fnExactChunkOkWrong)

/-- 'laws.FnExactEntryOk': WHATEVER THE INPUT: true; the input reads as it did. -/
def fnExactEntryOkSpec : ChangeSpec := { name := "fnExactEntryOk", fn := fun _ => fun
  | [d] => { results := [.lit (.bool true)], args := [d] }
  | _ => none }
def fnExactEntryOkRow : OpenClaim := { program := "ytchajonibjacaaa", sum := "04aae970ce2a8947833570f6436380e843b10d08d0cc17afe0fc87373d0c7a91", func := "loop.example/g00849/laws.FnExactEntryOk", spec := "fnExactEntryOk", apart := false }
def FnExactEntryOkSaid : Prop := fnExactEntryOkRow.holds Try.pinned (OpenSpec.ofChange fnExactEntryOkSpec)

/-- ITS FALSE NEIGHBOUR: 'it returns false'. Refute it at one input. -/
def fnExactEntryOkWrong : ChangeSpec := { name := "fnExactEntryOk", fn := fun _ => fun
  | [d] => { results := [.lit (.bool false)], args := [d] }
  | _ => none }
def FnExactEntryOkWrongFalsely : Prop := fnExactEntryOkRow.holds Try.pinned (OpenSpec.ofChange fnExactEntryOkWrong)

/-- 'laws.FnExactMonMsgOk': WHATEVER THE INPUT: true; the input reads as it did. -/
def fnExactMonMsgOkSpec : ChangeSpec := { name := "fnExactMonMsgOk", fn := fun _ => fun
  | [d] => { results := [.lit (.bool true)], args := [d] }
  | _ => none }
def fnExactMonMsgOkRow : OpenClaim := { program := "ytchajonibjacaaa", sum := "04aae970ce2a8947833570f6436380e843b10d08d0cc17afe0fc87373d0c7a91", func := "loop.example/g00849/laws.FnExactMonMsgOk", spec := "fnExactMonMsgOk", apart := false }
def FnExactMonMsgOkSaid : Prop := fnExactMonMsgOkRow.holds Try.pinned (OpenSpec.ofChange fnExactMonMsgOkSpec)

/-- ITS FALSE NEIGHBOUR: 'it returns false'. Refute it at one input. -/
def fnExactMonMsgOkWrong : ChangeSpec := { name := "fnExactMonMsgOk", fn := fun _ => fun
  | [d] => { results := [.lit (.bool false)], args := [d] }
  | _ => none }
def FnExactMonMsgOkWrongFalsely : Prop := fnExactMonMsgOkRow.holds Try.pinned (OpenSpec.ofChange fnExactMonMsgOkWrong)

/- THE SECOND FORM. 'bulk': how many values and letters a reading holds, each counted each time it is reached (what is shared counts as often as it is met; a slice's spare places count too). A statement '..UptoSaid' is the law's where the arguments, and the package variables that the reading takes, are together of bulk at most 1048576: NARROWER than '..Said'. Prove '..Said' where nothing that the law and all that it calls make is longer than what came in: it says more and counts as full. Else prove '..UptoSaid'. A law counts once. -/
mutual
def uptoBulk {H : Type} : DataW H → Nat
  | .lit (.string bytes) => bytes.length + 1
  | .lit _ => 1
  | .nil => 1
  | .ptr d => uptoBulk d + 1
  | .slice elems spare => uptoBulkAll elems + uptoBulkAll spare + 1
  | .agg parts => uptoBulkAll parts + 1
  | .iface _ d => uptoBulk d + 1
  | .map entries => uptoBulkEntries entries + 1
  | .held _ => 1
def uptoBulkAll {H : Type} : List (DataW H) → Nat
  | [] => 0
  | d :: r => uptoBulk d + uptoBulkAll r
def uptoBulkEntries {H : Type} : List (Lit × DataW H) → Nat
  | [] => 0
  | x :: r => uptoBulkEntry x + uptoBulkEntries r
def uptoBulkEntry {H : Type} : Lit × DataW H → Nat
  | (.string bytes, d) => bytes.length + uptoBulk d + 1
  | (_, d) => uptoBulk d + 1
 end
def uptoSmall : (H : Type) → List (DataW H) → Bool := fun _ ds => decide (uptoBulkAll ds ≤ 1048576)
def OpenSpec.upto (s : _root_.Go.ChangeSpec) : _root_.Go.OpenSpec := { _root_.Go.OpenSpec.ofChange s with cond := some uptoSmall }

/-- 'laws.FnExactNodeOk', WHERE WHAT IT READS IS OF BULK AT MOST 1048576: true; the input reads as it did. -/
def fnExactNodeOkUptoRow : OpenClaim := { program := "ytchajonibjacaaa", sum := "04aae970ce2a8947833570f6436380e843b10d08d0cc17afe0fc87373d0c7a91", func := "loop.example/g00849/laws.FnExactNodeOk", spec := "fnExactNodeOk", apart := false, narrowed := true }
def FnExactNodeOkUptoSaid : Prop := fnExactNodeOkUptoRow.holds Try.pinned (OpenSpec.upto fnExactNodeOkSpec)

/-- 'laws.FnExactClientOk', WHERE WHAT IT READS IS OF BULK AT MOST 1048576: true; the input reads as it did. -/
def fnExactClientOkUptoRow : OpenClaim := { program := "ytchajonibjacaaa", sum := "04aae970ce2a8947833570f6436380e843b10d08d0cc17afe0fc87373d0c7a91", func := "loop.example/g00849/laws.FnExactClientOk", spec := "fnExactClientOk", apart := false, narrowed := true }
def FnExactClientOkUptoSaid : Prop := fnExactClientOkUptoRow.holds Try.pinned (OpenSpec.upto fnExactClientOkSpec)

/-- 'laws.FnExactReads', WHERE WHAT IT READS IS OF BULK AT MOST 1048576: true; the input reads as it did. -/
def fnExactReadsUptoRow : OpenClaim := { program := "ytchajonibjacaaa", sum := "04aae970ce2a8947833570f6436380e843b10d08d0cc17afe0fc87373d0c7a91", func := "loop.example/g00849/laws.FnExactReads", spec := "fnExactReads", apart := false, narrowed := true }
def FnExactReadsUptoSaid : Prop := fnExactReadsUptoRow.holds Try.pinned (OpenSpec.upto fnExactReadsSpec)

/-- 'laws.FnExactIncOk', WHERE WHAT IT READS IS OF BULK AT MOST 1048576: true; the input reads as it did. -/
def fnExactIncOkUptoRow : OpenClaim := { program := "ytchajonibjacaaa", sum := "04aae970ce2a8947833570f6436380e843b10d08d0cc17afe0fc87373d0c7a91", func := "loop.example/g00849/laws.FnExactIncOk", spec := "fnExactIncOk", apart := false, narrowed := true }
def FnExactIncOkUptoSaid : Prop := fnExactIncOkUptoRow.holds Try.pinned (OpenSpec.upto fnExactIncOkSpec)

/-- 'laws.FnExactVerLess', WHERE WHAT IT READS IS OF BULK AT MOST 1048576: true; the input reads as it did. -/
def fnExactVerLessUptoRow : OpenClaim := { program := "ytchajonibjacaaa", sum := "04aae970ce2a8947833570f6436380e843b10d08d0cc17afe0fc87373d0c7a91", func := "loop.example/g00849/laws.FnExactVerLess", spec := "fnExactVerLess", apart := false, narrowed := true }
def FnExactVerLessUptoSaid : Prop := fnExactVerLessUptoRow.holds Try.pinned (OpenSpec.upto fnExactVerLessSpec)

/-- 'laws.FnVers', WHERE WHAT IT READS IS OF BULK AT MOST 1048576: true; the input reads as it did. -/
def fnVersUptoRow : OpenClaim := { program := "ytchajonibjacaaa", sum := "04aae970ce2a8947833570f6436380e843b10d08d0cc17afe0fc87373d0c7a91", func := "loop.example/g00849/laws.FnVers", spec := "fnVers", apart := false, narrowed := true }
def FnVersUptoSaid : Prop := fnVersUptoRow.holds Try.pinned (OpenSpec.upto fnVersSpec)

/-- 'laws.FnExactOpOk', WHERE WHAT IT READS IS OF BULK AT MOST 1048576: true; the input reads as it did. -/
def fnExactOpOkUptoRow : OpenClaim := { program := "ytchajonibjacaaa", sum := "04aae970ce2a8947833570f6436380e843b10d08d0cc17afe0fc87373d0c7a91", func := "loop.example/g00849/laws.FnExactOpOk", spec := "fnExactOpOk", apart := false, narrowed := true }
def FnExactOpOkUptoSaid : Prop := fnExactOpOkUptoRow.holds Try.pinned (OpenSpec.upto fnExactOpOkSpec)

/-- 'laws.FnExactChunkOk', WHERE WHAT IT READS IS OF BULK AT MOST 1048576: true; the input reads as it did. -/
def fnExactChunkOkUptoRow : OpenClaim := { program := "ytchajonibjacaaa", sum := "04aae970ce2a8947833570f6436380e843b10d08d0cc17afe0fc87373d0c7a91", func := "loop.example/g00849/laws.FnExactChunkOk", spec := "fnExactChunkOk", apart := false, narrowed := true }
def FnExactChunkOkUptoSaid : Prop := fnExactChunkOkUptoRow.holds Try.pinned (OpenSpec.upto fnExactChunkOkSpec)

/-- 'laws.FnExactEntryOk', WHERE WHAT IT READS IS OF BULK AT MOST 1048576: true; the input reads as it did. -/
def fnExactEntryOkUptoRow : OpenClaim := { program := "ytchajonibjacaaa", sum := "04aae970ce2a8947833570f6436380e843b10d08d0cc17afe0fc87373d0c7a91", func := "loop.example/g00849/laws.FnExactEntryOk", spec := "fnExactEntryOk", apart := false, narrowed := true }
def FnExactEntryOkUptoSaid : Prop := fnExactEntryOkUptoRow.holds Try.pinned (OpenSpec.upto fnExactEntryOkSpec)

/-- 'laws.FnExactMonMsgOk', WHERE WHAT IT READS IS OF BULK AT MOST 1048576: true; the input reads as it did. -/
def fnExactMonMsgOkUptoRow : OpenClaim := { program := "ytchajonibjacaaa", sum := "04aae970ce2a8947833570f6436380e843b10d08d0cc17afe0fc87373d0c7a91", func := "loop.example/g00849/laws.FnExactMonMsgOk", spec := "fnExactMonMsgOk", apart := false, narrowed := true }
def FnExactMonMsgOkUptoSaid : Prop := fnExactMonMsgOkUptoRow.holds Try.pinned (OpenSpec.upto fnExactMonMsgOkSpec)

end Rows
end Go.Proofs.Ytchajonibjacaaa
