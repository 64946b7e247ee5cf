-- Words that the kit's print lays for this seat, those left out that no text of the seat names (wip/tools/shake.py).
import Derived.Test.YtolpckflofjfhaaDoorWWords
import Derived.Laws.StructEq
/-! ### 53. '==' of structs as_ one Bool -/
namespace Go.Proofs.YtolpckflofjfhaaDoorW.PrintWords
open Go.RowKit
section
variable {P : Program} {d : Nat} {xs ys : Array Value} {f : Field} {fs : List Field} {a b : Value} {r s : Bool} {w : World}
end
end Go.Proofs.YtolpckflofjfhaaDoorW.PrintWords
