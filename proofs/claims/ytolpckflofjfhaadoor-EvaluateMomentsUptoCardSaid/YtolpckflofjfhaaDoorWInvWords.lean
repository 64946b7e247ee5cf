-- Words that the kit's print lays for this seat, those left out that no text of the seat names (wip/tools/shake.py).
import Derived.Test.YtolpckflofjfhaaDoorWInv
import Derived.Test.YtolpckflofjfhaaDoorWFootNe
namespace Go.Proofs.YtolpckflofjfhaaDoorW.PrintWords
open Go.RowKit
end Go.Proofs.YtolpckflofjfhaaDoorW.PrintWords
namespace Go.Proofs.YtolpckflofjfhaaDoorW.PrintLast
section
variable {ops : Array Oper} {a : Act} {o og : Oper} {g : Nat} {t : Tmp} {u : Bool}
end
end Go.Proofs.YtolpckflofjfhaaDoorW.PrintLast
