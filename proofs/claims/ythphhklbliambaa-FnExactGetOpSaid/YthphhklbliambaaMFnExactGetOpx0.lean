-- Written by a program of this session (wip/tools/myprint.py) over the kit's print: it is not the kit's print.
import Derived.Test.YthphhklbliambaaExtra
import Derived.Test.YthphhklbliambaaProg
import Derived.Below
import Derived.Deep.Draws
import Derived.Deep.AppendLies
import Derived.Maps.AppendAt
import Derived.OwnWalk
import Derived.Laws.BytesArg
import Derived.Laws.MakeOwn
import Derived.Laws.OwnMore
import Derived.Deep.OwnRows
import Derived.Tactics
import Derived.Lib.ConvBytes
import Derived.Laws.Slices
import Derived.WalkKit
import Derived.KernelRfl
import Derived.RowKit3
import Derived.Deep.LoopGhost
import Derived.Deep.QuietTactic
import Derived.BigQuiet
import Derived.WideLaws
import Derived.Deep.DeepCutAuto
import Derived.Deep.CutBlock
import Derived.Deep.RegionHeld3
import Derived.Laws.Rows
import Derived.Lib.AppendStr
import Derived.ArgAppend
import Derived.Laws.IdiomCopy
import Derived.OrdersHeld
import Derived.Laws.BitsLemmas
import Derived.RowKit
import Derived.Test.YthphhklbliambaaWWords
import Derived.Test.YthphhklbliambaaWLast
import Derived.Test.YthphhklbliambaaWTab
import Derived.Test.YthphhklbliambaaWFour
import Derived.Test.YthphhklbliambaaWQPut
import Derived.Test.YthphhklbliambaaWApart
import Derived.Test.YthphhklbliambaaWArr
import Derived.Test.YthphhklbliambaaWZeros
import Derived.Test.YthphhklbliambaaWFoot
import Derived.Test.YthphhklbliambaaWKept
import Derived.Test.YthphhklbliambaaWShare
import Derived.Test.YthphhklbliambaaWN
import Derived.Test.YthphhklbliambaaWFootNe
import Derived.Test.YthphhklbliambaaWAt
import Derived.Test.YthphhklbliambaaWEqStruct
import Derived.Test.YthphhklbliambaaWRepsOne
import Derived.Test.YthphhklbliambaaWInv
import Derived.Test.YthphhklbliambaaWInvWords
import Derived.Test.YthphhklbliambaaWGuard
import Derived.Test.YthphhklbliambaaWNEv
import Derived.Test.YthphhklbliambaaWMore
namespace Go.Proofs.Ythphhklbliambaa.MFnExactGetOp
open Go.RowKit Go.Proofs.YthphhklbliambaaW.PrintWords Go.Proofs.YthphhklbliambaaW.PrintLast Go.Proofs.YthphhklbliambaaW.PrintMore
attribute [local go_sem] max2_int min2_int max_two min_two max_three min_three max_four min_four   -- for this text's walks alone
set_option linter.unusedVariables false
set_option linter.unusedSimpArgs false



def errW : Option Int → Value
 | none => .nilIface
 | some c => .iface 0 (.int .i64 c)
theorem errW_none : errW none = .nilIface := rfl
theorem errW_some (c : Int) : errW (some c) = .iface 0 (.int .i64 c) := rfl

-- the values' own types

end Go.Proofs.Ythphhklbliambaa.MFnExactGetOp
