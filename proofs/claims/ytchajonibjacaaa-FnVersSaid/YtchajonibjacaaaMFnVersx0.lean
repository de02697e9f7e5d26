-- Written by a program of this session (wip/tools/myprint.py) over the kit's print: it is not the kit's print.
import Derived.Test.YtchajonibjacaaaProg
import Derived.Below
import Derived.Deep.Draws
import Derived.Deep.AppendLies
import Derived.Maps.AppendAt
import Derived.OwnWalk
import Derived.Laws.BytesArg
import Derived.Laws.MakeOwn
import Derived.Laws.OwnMore
import Derived.Deep.OwnRows
import Derived.Tactics
import Derived.Lib.ConvBytes
import Derived.Laws.Slices
import Derived.WalkKit
import Derived.KernelRfl
import Derived.RowKit3
import Derived.Deep.LoopGhost
import Derived.Deep.QuietTactic
import Derived.BigQuiet
import Derived.WideLaws
import Derived.Deep.DeepCutAuto
import Derived.Deep.CutBlock
import Derived.Deep.RegionHeld3
import Derived.Laws.Rows
import Derived.Lib.AppendStr
import Derived.ArgAppend
import Derived.Laws.IdiomCopy
import Derived.OrdersHeld
import Derived.Laws.BitsLemmas
import Derived.RowKit
import Derived.Test.YtchajonibjacaaaWWords
import Derived.Test.YtchajonibjacaaaWLast
import Derived.Test.YtchajonibjacaaaWTab
import Derived.Test.YtchajonibjacaaaWFour
import Derived.Test.YtchajonibjacaaaWQPut
import Derived.Test.YtchajonibjacaaaWApart
import Derived.Test.YtchajonibjacaaaWArr
import Derived.Test.YtchajonibjacaaaWZeros
import Derived.Test.YtchajonibjacaaaWFoot
import Derived.Test.YtchajonibjacaaaWKept
import Derived.Test.YtchajonibjacaaaWShare
import Derived.Test.YtchajonibjacaaaWN
import Derived.Test.YtchajonibjacaaaWFootNe
import Derived.Test.YtchajonibjacaaaWAt
import Derived.Test.YtchajonibjacaaaWEqStruct
import Derived.Test.YtchajonibjacaaaWRepsOne
import Derived.Test.YtchajonibjacaaaWInv
import Derived.Test.YtchajonibjacaaaWInvWords
import Derived.Test.YtchajonibjacaaaWGuard
import Derived.Test.YtchajonibjacaaaWNEv
import Derived.Test.YtchajonibjacaaaWMore
namespace Go.Proofs.Ytchajonibjacaaa.MFnVers
open Go.RowKit Go.Proofs.YtchajonibjacaaaW.PrintWords Go.Proofs.YtchajonibjacaaaW.PrintLast Go.Proofs.YtchajonibjacaaaW.PrintMore
attribute [local go_sem] max2_int min2_int max_two min_two max_three min_three max_four min_four   -- for this text's walks alone
set_option linter.unusedVariables false
set_option linter.unusedSimpArgs false



def errW : Option Int → Value
  | none => .nilIface
  | some c => .iface 0 (.int .i64 c)
theorem errW_none : errW none = .nilIface := rfl
theorem errW_some (c : Int) : errW (some c) = .iface 0 (.int .i64 c) := rfl

theorem info3 : (Try.prog.info? 3).map (fun i => (i.zero, i.size, i.bytes)) = some (some (.int .i64 0), 1, 8) := by kernel_rfl
-- the values' own types

end Go.Proofs.Ytchajonibjacaaa.MFnVers
