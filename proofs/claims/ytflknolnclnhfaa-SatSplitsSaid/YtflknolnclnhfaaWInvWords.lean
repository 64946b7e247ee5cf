-- Words that the kit's print lays for this seat, those left out that no text of the seat names (wip/tools/shake.py).
import Derived.Test.YtflknolnclnhfaaWInv
import Derived.Test.YtflknolnclnhfaaWFootNe
namespace Go.Proofs.YtflknolnclnhfaaW.PrintWords
open Go.RowKit
end Go.Proofs.YtflknolnclnhfaaW.PrintWords
namespace Go.Proofs.YtflknolnclnhfaaW.PrintLast
section
variable {ops : Array Oper} {a : Act} {o og : Oper} {g : Nat} {t : Tmp} {u : Bool}
end
end Go.Proofs.YtflknolnclnhfaaW.PrintLast
