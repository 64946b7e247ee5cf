/- Words of the session's own beside the print's words: 'make' of an empty row with a capacity. A template, its names filled in by wip/tools/xprint.py. -/
import Derived.Test.YtolpckflofjfhaaDoorWAll
import Derived.Lib.LazyBuf
import Derived.Shelf.Abstract
import Derived.Deep.RegionWith
namespace Go.Proofs.YtolpckflofjfhaaDoorW.PrintWords
open Go.RowKit
set_option linter.unusedVariables false
theorem pw_isEmpty (l : List UInt8) : l.isEmpty = !(l != []) := by cases l <;> rfl
namespace Kd
section
variable {P : Program} {ops : Array Oper} {rest : List Oper} {o : Oper} {a : Act} {Q : Exit → Act → World → Prop} {α : Type}
end
end Kd
end Go.Proofs.YtolpckflofjfhaaDoorW.PrintWords
