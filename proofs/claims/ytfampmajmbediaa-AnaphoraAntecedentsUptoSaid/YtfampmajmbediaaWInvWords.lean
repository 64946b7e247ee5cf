-- Words that the kit's print lays for this seat, those left out that no text of the seat names (wip/tools/shake.py).
import Derived.Test.YtfampmajmbediaaWInv
import Derived.Test.YtfampmajmbediaaWFootNe
namespace Go.Proofs.YtfampmajmbediaaW.PrintWords
open Go.RowKit
end Go.Proofs.YtfampmajmbediaaW.PrintWords
namespace Go.Proofs.YtfampmajmbediaaW.PrintLast
section
variable {ops : Array Oper} {a : Act} {o og : Oper} {g : Nat} {t : Tmp} {u : Bool}
end
end Go.Proofs.YtfampmajmbediaaW.PrintLast
