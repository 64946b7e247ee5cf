-- Words that the kit's print lays for this seat, those left out that no text of the seat names (wip/tools/shake.py).
import Derived.Test.YtfampmajmbediaaWWords
import Derived.Laws.StructEq
/-! ### 53. '==' of structs as_ one Bool -/
namespace Go.Proofs.YtfampmajmbediaaW.PrintWords
open Go.RowKit
section
variable {P : Program} {d : Nat} {xs ys : Array Value} {f : Field} {fs : List Field} {a b : Value} {r s : Bool} {w : World}
end
end Go.Proofs.YtfampmajmbediaaW.PrintWords
