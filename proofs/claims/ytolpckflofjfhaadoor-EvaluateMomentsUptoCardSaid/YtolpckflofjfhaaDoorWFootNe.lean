-- Words that the kit's print lays for this seat, those left out that no text of the seat names (wip/tools/shake.py).
import Derived.Test.YtolpckflofjfhaaDoorWN
/-! ### 52. A row that stays read whatever happens to a block (a set of blocks) doesn't lie there -/
namespace Go.Proofs.YtolpckflofjfhaaDoorW.PrintWords
open Go.RowKit
namespace Kd
section
variable {α : Type} {d : Kd α} {W : World} {g n : Nat} {S ok : Nat → Prop} {A : Option Addr} {ad : Addr} {xs : List α}
end
end Kd
end Go.Proofs.YtolpckflofjfhaaDoorW.PrintWords
