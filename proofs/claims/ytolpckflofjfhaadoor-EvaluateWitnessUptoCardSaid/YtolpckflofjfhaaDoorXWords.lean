import Derived.Test.YtolpckflofjfhaaDoorWAll
import Derived.Lib.LazyBuf
import Derived.Shelf.Abstract
import Derived.Deep.RegionWith
namespace Go.Proofs.YtolpckflofjfhaaDoorW.PrintWords
open Go.RowKit
set_option linter.unusedVariables false
theorem pw_isEmpty (l : List UInt8) : l.isEmpty = !(l != []) := by cases l <;> rfl
end Go.Proofs.YtolpckflofjfhaaDoorW.PrintWords
