-- Words that the kit's print lays for this seat, those left out that no text of the seat names (wip/tools/shake.py).
import Derived.Test.YtolpckflofjfhaaDoorWTab
/-! ### 56. Four, five, six operations that may come up next, in any order -/
namespace Go.Proofs.YtolpckflofjfhaaDoorW.PrintLast
section
variable {P : Program} {ops : Array Oper} {Q : Exit → Act → World → Prop} {md : Region.Mode} {S : World → Prop} {ds : List Nat} {T : Bool × List (List Nat × List Nat)}
end
end Go.Proofs.YtolpckflofjfhaaDoorW.PrintLast
