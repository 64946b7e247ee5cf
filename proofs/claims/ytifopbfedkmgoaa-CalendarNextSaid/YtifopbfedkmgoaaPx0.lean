-- Written by the session's own program wip/tools/xprint.py out of the translation, with the kit's print.py on a scratch copy; functions given by hand stand among them.
import Derived.Test.YtifopbfedkmgoaaProg
import Derived.Below
import Derived.Deep.Draws
import Derived.Deep.AppendLies
import Derived.Maps.AppendAt
import Derived.OwnWalk
import Derived.Laws.BytesArg
import Derived.Laws.MakeOwn
import Derived.Laws.OwnMore
import Derived.Deep.OwnRows
import Derived.Tactics
import Derived.Lib.ConvBytes
import Derived.Laws.Slices
import Derived.WalkKit
import Derived.KernelRfl
import Derived.RowKit3
import Derived.Deep.LoopGhost
import Derived.Deep.QuietTactic
import Derived.BigQuiet
import Derived.WideLaws
import Derived.Deep.DeepCutAuto
import Derived.Deep.CutBlock
import Derived.Deep.RegionHeld3
import Derived.Laws.Rows
import Derived.Lib.AppendStr
import Derived.ArgAppend
import Derived.Laws.IdiomCopy
import Derived.OrdersHeld
import Derived.Laws.BitsLemmas
import Derived.RowKit
import Derived.Test.YtifopbfedkmgoaaWWords
import Derived.Test.YtifopbfedkmgoaaWLast
import Derived.Test.YtifopbfedkmgoaaWTab
import Derived.Test.YtifopbfedkmgoaaWFour
import Derived.Test.YtifopbfedkmgoaaWQPut
import Derived.Test.YtifopbfedkmgoaaWApart
import Derived.Test.YtifopbfedkmgoaaWArr
import Derived.Test.YtifopbfedkmgoaaWZeros
import Derived.Test.YtifopbfedkmgoaaWFoot
import Derived.Test.YtifopbfedkmgoaaWKept
import Derived.Test.YtifopbfedkmgoaaWShare
import Derived.Test.YtifopbfedkmgoaaWN
import Derived.Test.YtifopbfedkmgoaaWFootNe
import Derived.Test.YtifopbfedkmgoaaWAt
import Derived.Test.YtifopbfedkmgoaaWEqStruct
import Derived.Test.YtifopbfedkmgoaaWRepsOne
import Derived.Test.YtifopbfedkmgoaaWInv
import Derived.Test.YtifopbfedkmgoaaWInvWords
import Derived.Test.YtifopbfedkmgoaaWGuard
import Derived.Test.YtifopbfedkmgoaaWNEv
import Derived.Test.YtifopbfedkmgoaaWMore
namespace Go.Proofs.Ytifopbfedkmgoaa.P
open Go.RowKit Go.Proofs.YtifopbfedkmgoaaW.PrintWords Go.Proofs.YtifopbfedkmgoaaW.PrintLast Go.Proofs.YtifopbfedkmgoaaW.PrintMore
attribute [local go_sem] max2_int min2_int max_two min_two max_three min_three max_four min_four   -- for this text's walks alone
set_option linter.unusedVariables false
set_option linter.unusedSimpArgs false



def errW : Option Int → Value
  | none => .nilIface
  | some c => .iface 0 (.int .i64 c)
theorem errW_none : errW none = .nilIface := rfl
theorem errW_some (c : Int) : errW (some c) = .iface 0 (.int .i64 c) := rfl

-- the values' own types

end Go.Proofs.Ytifopbfedkmgoaa.P
