/-
  No cell of these rows narrows 'for every input' (looked for: loops, veiled, ifaces, maps, wideKeys, modest, calm, conditions, laid).
  DERIVED. THE GIVEN ROWS OF THIS SEAT. 12 by the template 'for every input the law returns true; each argument reads behind the call as it read before'; 0 by the template 'total and deterministic' (their statements: YthphhklbliambaaTotals.lean).
  GIVEN WITH THE SEED: the statements are not yours to turn. If you find one false, say at which input.
  Laid BY PROGRAM, IN A SANDBOX (cutbox-rows.mjs): the forced cells as the released guide's own fill.sh prints them over the translation 608c11b2467c65b0… (all of the seat's roots in one cut). By AI agents, Wed Nov 11 2026. No macro, syntax, notation, axiom, sorry.
-/
import Derived.Test.YthphhklbliambaaChecked
import GoSem.Claim
import GoSem.ClaimJoined
import GoSem.ClaimMapViews
import Derived.JoinedTies
import Derived.KernelRfl
namespace Go.Proofs.Ythphhklbliambaa
/- THE CELL 'sum', in the pinned program and in every row, IS THE sha256 OF THE DUMP (.gsa) THAT YthphhklbliambaaProg.lean LOADS. Nothing in Lean hashes anything: it is a label: what it is worth is what the hold of that sum in a sandbox is worth. -/
noncomputable def Try.pinned : Pinned := { name := "ythphhklbliambaa", sum := "608c11b2467c65b0b74ca653f31bad9b7ce40aa96c3b5b8d9663384e4e7be8dc", checked := Try.checked }
namespace Rows
def none {H : Type} : Left H := { results := [], args := [] }

/-- 'laws.FnExactDiskOk': WHATEVER THE INPUT: true; the input reads as it did. -/
def fnExactDiskOkSpec : ChangeSpec := { name := "fnExactDiskOk", fn := fun _ => fun
  | [d] => { results := [.lit (.bool true)], args := [d] }
  | _ => none }
def fnExactDiskOkRow : OpenClaim := { program := "ythphhklbliambaa", sum := "608c11b2467c65b0b74ca653f31bad9b7ce40aa96c3b5b8d9663384e4e7be8dc", func := "loop.example/g00849/laws.FnExactDiskOk", spec := "fnExactDiskOk", unfollowed := true, recurses := true, apart := false }
def FnExactDiskOkSaid : Prop := fnExactDiskOkRow.holds Try.pinned (OpenSpec.ofChange fnExactDiskOkSpec)

/-- ITS FALSE NEIGHBOUR: 'it returns false'. Refute it at one input. -/
def fnExactDiskOkWrong : ChangeSpec := { name := "fnExactDiskOk", fn := fun _ => fun
  | [d] => { results := [.lit (.bool false)], args := [d] }
  | _ => none }
def FnExactDiskOkWrongFalsely : Prop := fnExactDiskOkRow.holds Try.pinned (OpenSpec.ofChange fnExactDiskOkWrong)

/-- 'laws.FnExactReadSector': WHATEVER THE INPUT: true; the input reads as it did. -/
def fnExactReadSectorSpec : ChangeSpec := { name := "fnExactReadSector", fn := fun _ => fun
  | [d1, d2] => { results := [.lit (.bool true)], args := [d1, d2] }
  | _ => none }
def fnExactReadSectorRow : OpenClaim := { program := "ythphhklbliambaa", sum := "608c11b2467c65b0b74ca653f31bad9b7ce40aa96c3b5b8d9663384e4e7be8dc", func := "loop.example/g00849/laws.FnExactReadSector", spec := "fnExactReadSector", unfollowed := true, recurses := true, apart := false }
def FnExactReadSectorSaid : Prop := fnExactReadSectorRow.holds Try.pinned (OpenSpec.ofChange fnExactReadSectorSpec)

/-- ITS FALSE NEIGHBOUR: 'it returns false'. Refute it at one input. -/
def fnExactReadSectorWrong : ChangeSpec := { name := "fnExactReadSector", fn := fun _ => fun
  | [d1, d2] => { results := [.lit (.bool false)], args := [d1, d2] }
  | _ => none }
def FnExactReadSectorWrongFalsely : Prop := fnExactReadSectorRow.holds Try.pinned (OpenSpec.ofChange fnExactReadSectorWrong)

/-- 'laws.FnExactFlushDisk': WHATEVER THE INPUT: true; the input reads as it did. -/
def fnExactFlushDiskSpec : ChangeSpec := { name := "fnExactFlushDisk", fn := fun _ => fun
  | [d] => { results := [.lit (.bool true)], args := [d] }
  | _ => none }
def fnExactFlushDiskRow : OpenClaim := { program := "ythphhklbliambaa", sum := "608c11b2467c65b0b74ca653f31bad9b7ce40aa96c3b5b8d9663384e4e7be8dc", func := "loop.example/g00849/laws.FnExactFlushDisk", spec := "fnExactFlushDisk", unfollowed := true, recurses := true, apart := false }
def FnExactFlushDiskSaid : Prop := fnExactFlushDiskRow.holds Try.pinned (OpenSpec.ofChange fnExactFlushDiskSpec)

/-- ITS FALSE NEIGHBOUR: 'it returns false'. Refute it at one input. -/
def fnExactFlushDiskWrong : ChangeSpec := { name := "fnExactFlushDisk", fn := fun _ => fun
  | [d] => { results := [.lit (.bool false)], args := [d] }
  | _ => none }
def FnExactFlushDiskWrongFalsely : Prop := fnExactFlushDiskRow.holds Try.pinned (OpenSpec.ofChange fnExactFlushDiskWrong)

/-- 'laws.FnExactNewDisk': WHATEVER THE INPUT: true; the input reads as it did. -/
def fnExactNewDiskSpec : ChangeSpec := { name := "fnExactNewDisk", fn := fun _ => fun
  | [d] => { results := [.lit (.bool true)], args := [d] }
  | _ => none }
def fnExactNewDiskRow : OpenClaim := { program := "ythphhklbliambaa", sum := "608c11b2467c65b0b74ca653f31bad9b7ce40aa96c3b5b8d9663384e4e7be8dc", func := "loop.example/g00849/laws.FnExactNewDisk", spec := "fnExactNewDisk", inPlace := ["internal/abi.NoEscape", "internal/bytealg.MakeNoZero"], apart := false }
def FnExactNewDiskSaid : Prop := fnExactNewDiskRow.holds Try.pinned (OpenSpec.ofChange fnExactNewDiskSpec)

/-- ITS FALSE NEIGHBOUR: 'it returns false'. Refute it at one input. -/
def fnExactNewDiskWrong : ChangeSpec := { name := "fnExactNewDisk", fn := fun _ => fun
  | [d] => { results := [.lit (.bool false)], args := [d] }
  | _ => none }
def FnExactNewDiskWrongFalsely : Prop := fnExactNewDiskRow.holds Try.pinned (OpenSpec.ofChange fnExactNewDiskWrong)

/-- 'laws.FnExactPowerLoss': WHATEVER THE INPUT: true; the input reads as it did. -/
def fnExactPowerLossSpec : ChangeSpec := { name := "fnExactPowerLoss", fn := fun _ => fun
  | [d1, d2, d3] => { results := [.lit (.bool true)], args := [d1, d2, d3] }
  | _ => none }
def fnExactPowerLossRow : OpenClaim := { program := "ythphhklbliambaa", sum := "608c11b2467c65b0b74ca653f31bad9b7ce40aa96c3b5b8d9663384e4e7be8dc", func := "loop.example/g00849/laws.FnExactPowerLoss", spec := "fnExactPowerLoss", unfollowed := true, recurses := true, apart := false }
def FnExactPowerLossSaid : Prop := fnExactPowerLossRow.holds Try.pinned (OpenSpec.ofChange fnExactPowerLossSpec)

/-- ITS FALSE NEIGHBOUR: 'it returns false'. Refute it at one input. -/
def fnExactPowerLossWrong : ChangeSpec := { name := "fnExactPowerLoss", fn := fun _ => fun
  | [d1, d2, d3] => { results := [.lit (.bool false)], args := [d1, d2, d3] }
  | _ => none }
def FnExactPowerLossWrongFalsely : Prop := fnExactPowerLossRow.holds Try.pinned (OpenSpec.ofChange fnExactPowerLossWrong)

/-- 'laws.FnDiskKeeps': WHATEVER THE INPUT: true; the input reads as it did. -/
def fnDiskKeepsSpec : ChangeSpec := { name := "fnDiskKeeps", fn := fun _ => fun
  | [d1, d2] => { results := [.lit (.bool true)], args := [d1, d2] }
  | _ => none }
def fnDiskKeepsRow : OpenClaim := { program := "ythphhklbliambaa", sum := "608c11b2467c65b0b74ca653f31bad9b7ce40aa96c3b5b8d9663384e4e7be8dc", func := "loop.example/g00849/laws.FnDiskKeeps", spec := "fnDiskKeeps", unfollowed := true, recurses := true, apart := false }
def FnDiskKeepsSaid : Prop := fnDiskKeepsRow.holds Try.pinned (OpenSpec.ofChange fnDiskKeepsSpec)

/-- ITS FALSE NEIGHBOUR: 'it returns false'. Refute it at one input. -/
def fnDiskKeepsWrong : ChangeSpec := { name := "fnDiskKeeps", fn := fun _ => fun
  | [d1, d2] => { results := [.lit (.bool false)], args := [d1, d2] }
  | _ => none }
def FnDiskKeepsWrongFalsely : Prop := fnDiskKeepsRow.holds Try.pinned (OpenSpec.ofChange fnDiskKeepsWrong)

/-- 'laws.FnExactPutOp': WHATEVER THE INPUT: true; the input reads as it did. -/
def fnExactPutOpSpec : ChangeSpec := { name := "fnExactPutOp", fn := fun _ => fun
  | [d] => { results := [.lit (.bool true)], args := [d] }
  | _ => none }
def fnExactPutOpRow : OpenClaim := { program := "ythphhklbliambaa", sum := "608c11b2467c65b0b74ca653f31bad9b7ce40aa96c3b5b8d9663384e4e7be8dc", func := "loop.example/g00849/laws.FnExactPutOp", spec := "fnExactPutOp", apart := false }
def FnExactPutOpSaid : Prop := fnExactPutOpRow.holds Try.pinned (OpenSpec.ofChange fnExactPutOpSpec)

/-- ITS FALSE NEIGHBOUR: 'it returns false'. Refute it at one input. -/
def fnExactPutOpWrong : ChangeSpec := { name := "fnExactPutOp", fn := fun _ => fun
  | [d] => { results := [.lit (.bool false)], args := [d] }
  | _ => none }
def FnExactPutOpWrongFalsely : Prop := fnExactPutOpRow.holds Try.pinned (OpenSpec.ofChange fnExactPutOpWrong)

/-- 'laws.FnExactGetOp': WHATEVER THE INPUT: true; the input reads as it did. -/
def fnExactGetOpSpec : ChangeSpec := { name := "fnExactGetOp", fn := fun _ => fun
  | [d] => { results := [.lit (.bool true)], args := [d] }
  | _ => none }
def fnExactGetOpRow : OpenClaim := { program := "ythphhklbliambaa", sum := "608c11b2467c65b0b74ca653f31bad9b7ce40aa96c3b5b8d9663384e4e7be8dc", func := "loop.example/g00849/laws.FnExactGetOp", spec := "fnExactGetOp", apart := false }
def FnExactGetOpSaid : Prop := fnExactGetOpRow.holds Try.pinned (OpenSpec.ofChange fnExactGetOpSpec)

/-- ITS FALSE NEIGHBOUR: 'it returns false'. Refute it at one input. -/
def fnExactGetOpWrong : ChangeSpec := { name := "fnExactGetOp", fn := fun _ => fun
  | [d] => { results := [.lit (.bool false)], args := [d] }
  | _ => none }
def FnExactGetOpWrongFalsely : Prop := fnExactGetOpRow.holds Try.pinned (OpenSpec.ofChange fnExactGetOpWrong)

/-- 'laws.FnExactApplyOp': WHATEVER THE INPUT: true; the input reads as it did. -/
def fnExactApplyOpSpec : ChangeSpec := { name := "fnExactApplyOp", fn := fun _ => fun
  | [d1, d2, d3] => { results := [.lit (.bool true)], args := [d1, d2, d3] }
  | _ => none }
def fnExactApplyOpRow : OpenClaim := { program := "ythphhklbliambaa", sum := "608c11b2467c65b0b74ca653f31bad9b7ce40aa96c3b5b8d9663384e4e7be8dc", func := "loop.example/g00849/laws.FnExactApplyOp", spec := "fnExactApplyOp", inPlace := ["internal/abi.NoEscape", "internal/bytealg.MakeNoZero"], apart := false }
def FnExactApplyOpSaid : Prop := fnExactApplyOpRow.holds Try.pinned (OpenSpec.ofChange fnExactApplyOpSpec)

/-- ITS FALSE NEIGHBOUR: 'it returns false'. Refute it at one input. -/
def fnExactApplyOpWrong : ChangeSpec := { name := "fnExactApplyOp", fn := fun _ => fun
  | [d1, d2, d3] => { results := [.lit (.bool false)], args := [d1, d2, d3] }
  | _ => none }
def FnExactApplyOpWrongFalsely : Prop := fnExactApplyOpRow.holds Try.pinned (OpenSpec.ofChange fnExactApplyOpWrong)

/-- 'laws.FnExactApplyOps': WHATEVER THE INPUT: true; the input reads as it did. -/
def fnExactApplyOpsSpec : ChangeSpec := { name := "fnExactApplyOps", fn := fun _ => fun
  | [d1, d2, d3] => { results := [.lit (.bool true)], args := [d1, d2, d3] }
  | _ => none }
def fnExactApplyOpsRow : OpenClaim := { program := "ythphhklbliambaa", sum := "608c11b2467c65b0b74ca653f31bad9b7ce40aa96c3b5b8d9663384e4e7be8dc", func := "loop.example/g00849/laws.FnExactApplyOps", spec := "fnExactApplyOps", inPlace := ["internal/abi.NoEscape", "internal/bytealg.MakeNoZero"], unfollowed := true, recurses := true, apart := false }
def FnExactApplyOpsSaid : Prop := fnExactApplyOpsRow.holds Try.pinned (OpenSpec.ofChange fnExactApplyOpsSpec)

/-- ITS FALSE NEIGHBOUR: 'it returns false'. Refute it at one input. -/
def fnExactApplyOpsWrong : ChangeSpec := { name := "fnExactApplyOps", fn := fun _ => fun
  | [d1, d2, d3] => { results := [.lit (.bool false)], args := [d1, d2, d3] }
  | _ => none }
def FnExactApplyOpsWrongFalsely : Prop := fnExactApplyOpsRow.holds Try.pinned (OpenSpec.ofChange fnExactApplyOpsWrong)

/-- 'laws.FnOpSame': WHATEVER THE INPUT: true; the input reads as it did. -/
def fnOpSameSpec : ChangeSpec := { name := "fnOpSame", fn := fun _ => fun
  | [d1, d2] => { results := [.lit (.bool true)], args := [d1, d2] }
  | _ => none }
def fnOpSameRow : OpenClaim := { program := "ythphhklbliambaa", sum := "608c11b2467c65b0b74ca653f31bad9b7ce40aa96c3b5b8d9663384e4e7be8dc", func := "loop.example/g00849/laws.FnOpSame", spec := "fnOpSame", inPlace := ["internal/abi.NoEscape", "internal/bytealg.MakeNoZero"], apart := false }
def FnOpSameSaid : Prop := fnOpSameRow.holds Try.pinned (OpenSpec.ofChange fnOpSameSpec)

/-- ITS FALSE NEIGHBOUR: 'it returns false'. Refute it at one input. -/
def fnOpSameWrong : ChangeSpec := { name := "fnOpSame", fn := fun _ => fun
  | [d1, d2] => { results := [.lit (.bool false)], args := [d1, d2] }
  | _ => none }
def FnOpSameWrongFalsely : Prop := fnOpSameRow.holds Try.pinned (OpenSpec.ofChange fnOpSameWrong)

/-- 'laws.FnOps': WHATEVER THE INPUT: true; the input reads as it did. -/
def fnOpsSpec : ChangeSpec := { name := "fnOps", fn := fun _ => fun
  | [d1, d2] => { results := [.lit (.bool true)], args := [d1, d2] }
  | _ => none }
def fnOpsRow : OpenClaim := { program := "ythphhklbliambaa", sum := "608c11b2467c65b0b74ca653f31bad9b7ce40aa96c3b5b8d9663384e4e7be8dc", func := "loop.example/g00849/laws.FnOps", spec := "fnOps", inPlace := ["internal/abi.NoEscape", "internal/bytealg.MakeNoZero"], unfollowed := true, recurses := true, apart := false }
def FnOpsSaid : Prop := fnOpsRow.holds Try.pinned (OpenSpec.ofChange fnOpsSpec)

/-- ITS FALSE NEIGHBOUR: 'it returns false'. Refute it at one input. -/
def fnOpsWrong : ChangeSpec := { name := "fnOps", fn := fun _ => fun
  | [d1, d2] => { results := [.lit (.bool false)], args := [d1, d2] }
  | _ => none }
def FnOpsWrongFalsely : Prop := fnOpsRow.holds Try.pinned (OpenSpec.ofChange fnOpsWrong)

/- THE SECOND FORM. 'bulk': how many values and letters a reading holds, each counted each time it is reached (what is shared counts as often as it is met; a slice's spare places count too). A statement '..UptoSaid' is the law's where the arguments, and the package variables that the reading takes, are together of bulk at most 1048576: NARROWER than '..Said'. Prove '..Said' where nothing that the law and all that it calls make is longer than what came in: it says more and counts as full. Else prove '..UptoSaid'. A law counts once. -/
mutual
def uptoBulk {H : Type} : DataW H → Nat
  | .lit (.string bytes) => bytes.length + 1
  | .lit _ => 1
  | .nil => 1
  | .ptr d => uptoBulk d + 1
  | .slice elems spare => uptoBulkAll elems + uptoBulkAll spare + 1
  | .agg parts => uptoBulkAll parts + 1
  | .iface _ d => uptoBulk d + 1
  | .map entries => uptoBulkEntries entries + 1
  | .held _ => 1
def uptoBulkAll {H : Type} : List (DataW H) → Nat
  | [] => 0
  | d :: r => uptoBulk d + uptoBulkAll r
def uptoBulkEntries {H : Type} : List (Lit × DataW H) → Nat
  | [] => 0
  | x :: r => uptoBulkEntry x + uptoBulkEntries r
def uptoBulkEntry {H : Type} : Lit × DataW H → Nat
  | (.string bytes, d) => bytes.length + uptoBulk d + 1
  | (_, d) => uptoBulk d + 1
 end
def uptoSmall : (H : Type) → List (DataW H) → Bool := fun _ ds => decide (uptoBulkAll ds ≤ 1048576)
def OpenSpec.upto (s : _root_.Go.ChangeSpec) : _root_.Go.OpenSpec := { _root_.Go.OpenSpec.ofChange s with cond := some uptoSmall }

/-- 'laws.FnExactDiskOk', WHERE WHAT IT READS IS OF BULK AT MOST 1048576: true; the input reads as it did. -/
def fnExactDiskOkUptoRow : OpenClaim := { program := "ythphhklbliambaa", sum := "608c11b2467c65b0b74ca653f31bad9b7ce40aa96c3b5b8d9663384e4e7be8dc", func := "loop.example/g00849/laws.FnExactDiskOk", spec := "fnExactDiskOk", unfollowed := true, recurses := true, apart := false, narrowed := true }
def FnExactDiskOkUptoSaid : Prop := fnExactDiskOkUptoRow.holds Try.pinned (OpenSpec.upto fnExactDiskOkSpec)

/-- 'laws.FnExactReadSector', WHERE WHAT IT READS IS OF BULK AT MOST 1048576: true; the input reads as it did. -/
def fnExactReadSectorUptoRow : OpenClaim := { program := "ythphhklbliambaa", sum := "608c11b2467c65b0b74ca653f31bad9b7ce40aa96c3b5b8d9663384e4e7be8dc", func := "loop.example/g00849/laws.FnExactReadSector", spec := "fnExactReadSector", unfollowed := true, recurses := true, apart := false, narrowed := true }
def FnExactReadSectorUptoSaid : Prop := fnExactReadSectorUptoRow.holds Try.pinned (OpenSpec.upto fnExactReadSectorSpec)

/-- 'laws.FnExactFlushDisk', WHERE WHAT IT READS IS OF BULK AT MOST 1048576: true; the input reads as it did. -/
def fnExactFlushDiskUptoRow : OpenClaim := { program := "ythphhklbliambaa", sum := "608c11b2467c65b0b74ca653f31bad9b7ce40aa96c3b5b8d9663384e4e7be8dc", func := "loop.example/g00849/laws.FnExactFlushDisk", spec := "fnExactFlushDisk", unfollowed := true, recurses := true, apart := false, narrowed := true }
def FnExactFlushDiskUptoSaid : Prop := fnExactFlushDiskUptoRow.holds Try.pinned (OpenSpec.upto fnExactFlushDiskSpec)

/-- 'laws.FnExactNewDisk', WHERE WHAT IT READS IS OF BULK AT MOST 1048576: true; the input reads as it did. -/
def fnExactNewDiskUptoRow : OpenClaim := { program := "ythphhklbliambaa", sum := "608c11b2467c65b0b74ca653f31bad9b7ce40aa96c3b5b8d9663384e4e7be8dc", func := "loop.example/g00849/laws.FnExactNewDisk", spec := "fnExactNewDisk", inPlace := ["internal/abi.NoEscape", "internal/bytealg.MakeNoZero"], apart := false, narrowed := true }
def FnExactNewDiskUptoSaid : Prop := fnExactNewDiskUptoRow.holds Try.pinned (OpenSpec.upto fnExactNewDiskSpec)

/-- 'laws.FnExactPowerLoss', WHERE WHAT IT READS IS OF BULK AT MOST 1048576: true; the input reads as it did. -/
def fnExactPowerLossUptoRow : OpenClaim := { program := "ythphhklbliambaa", sum := "608c11b2467c65b0b74ca653f31bad9b7ce40aa96c3b5b8d9663384e4e7be8dc", func := "loop.example/g00849/laws.FnExactPowerLoss", spec := "fnExactPowerLoss", unfollowed := true, recurses := true, apart := false, narrowed := true }
def FnExactPowerLossUptoSaid : Prop := fnExactPowerLossUptoRow.holds Try.pinned (OpenSpec.upto fnExactPowerLossSpec)

/-- 'laws.FnDiskKeeps', WHERE WHAT IT READS IS OF BULK AT MOST 1048576: true; the input reads as it did. -/
def fnDiskKeepsUptoRow : OpenClaim := { program := "ythphhklbliambaa", sum := "608c11b2467c65b0b74ca653f31bad9b7ce40aa96c3b5b8d9663384e4e7be8dc", func := "loop.example/g00849/laws.FnDiskKeeps", spec := "fnDiskKeeps", unfollowed := true, recurses := true, apart := false, narrowed := true }
def FnDiskKeepsUptoSaid : Prop := fnDiskKeepsUptoRow.holds Try.pinned (OpenSpec.upto fnDiskKeepsSpec)

/-- 'laws.FnExactPutOp', WHERE WHAT IT READS IS OF BULK AT MOST 1048576: true; the input reads as it did. -/
def fnExactPutOpUptoRow : OpenClaim := { program := "ythphhklbliambaa", sum := "608c11b2467c65b0b74ca653f31bad9b7ce40aa96c3b5b8d9663384e4e7be8dc", func := "loop.example/g00849/laws.FnExactPutOp", spec := "fnExactPutOp", apart := false, narrowed := true }
def FnExactPutOpUptoSaid : Prop := fnExactPutOpUptoRow.holds Try.pinned (OpenSpec.upto fnExactPutOpSpec)

/-- 'laws.FnExactGetOp', WHERE WHAT IT READS IS OF BULK AT MOST 1048576: true; the input reads as it did. -/
def fnExactGetOpUptoRow : OpenClaim := { program := "ythphhklbliambaa", sum := "608c11b2467c65b0b74ca653f31bad9b7ce40aa96c3b5b8d9663384e4e7be8dc", func := "loop.example/g00849/laws.FnExactGetOp", spec := "fnExactGetOp", apart := false, narrowed := true }
def FnExactGetOpUptoSaid : Prop := fnExactGetOpUptoRow.holds Try.pinned (OpenSpec.upto fnExactGetOpSpec)

/-- 'laws.FnExactApplyOp', WHERE WHAT IT READS IS OF BULK AT MOST 1048576: true; the input reads as it did. -/
def fnExactApplyOpUptoRow : OpenClaim := { program := "ythphhklbliambaa", sum := "608c11b2467c65b0b74ca653f31bad9b7ce40aa96c3b5b8d9663384e4e7be8dc", func := "loop.example/g00849/laws.FnExactApplyOp", spec := "fnExactApplyOp", inPlace := ["internal/abi.NoEscape", "internal/bytealg.MakeNoZero"], apart := false, narrowed := true }
def FnExactApplyOpUptoSaid : Prop := fnExactApplyOpUptoRow.holds Try.pinned (OpenSpec.upto fnExactApplyOpSpec)

/-- 'laws.FnExactApplyOps', WHERE WHAT IT READS IS OF BULK AT MOST 1048576: true; the input reads as it did. -/
def fnExactApplyOpsUptoRow : OpenClaim := { program := "ythphhklbliambaa", sum := "608c11b2467c65b0b74ca653f31bad9b7ce40aa96c3b5b8d9663384e4e7be8dc", func := "loop.example/g00849/laws.FnExactApplyOps", spec := "fnExactApplyOps", inPlace := ["internal/abi.NoEscape", "internal/bytealg.MakeNoZero"], unfollowed := true, recurses := true, apart := false, narrowed := true }
def FnExactApplyOpsUptoSaid : Prop := fnExactApplyOpsUptoRow.holds Try.pinned (OpenSpec.upto fnExactApplyOpsSpec)

/-- 'laws.FnOpSame', WHERE WHAT IT READS IS OF BULK AT MOST 1048576: true; the input reads as it did. -/
def fnOpSameUptoRow : OpenClaim := { program := "ythphhklbliambaa", sum := "608c11b2467c65b0b74ca653f31bad9b7ce40aa96c3b5b8d9663384e4e7be8dc", func := "loop.example/g00849/laws.FnOpSame", spec := "fnOpSame", inPlace := ["internal/abi.NoEscape", "internal/bytealg.MakeNoZero"], apart := false, narrowed := true }
def FnOpSameUptoSaid : Prop := fnOpSameUptoRow.holds Try.pinned (OpenSpec.upto fnOpSameSpec)

/-- 'laws.FnOps', WHERE WHAT IT READS IS OF BULK AT MOST 1048576: true; the input reads as it did. -/
def fnOpsUptoRow : OpenClaim := { program := "ythphhklbliambaa", sum := "608c11b2467c65b0b74ca653f31bad9b7ce40aa96c3b5b8d9663384e4e7be8dc", func := "loop.example/g00849/laws.FnOps", spec := "fnOps", inPlace := ["internal/abi.NoEscape", "internal/bytealg.MakeNoZero"], unfollowed := true, recurses := true, apart := false, narrowed := true }
def FnOpsUptoSaid : Prop := fnOpsUptoRow.holds Try.pinned (OpenSpec.upto fnOpsSpec)

end Rows
end Go.Proofs.Ythphhklbliambaa
