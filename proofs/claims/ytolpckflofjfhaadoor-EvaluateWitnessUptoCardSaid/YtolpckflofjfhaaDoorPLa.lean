import Derived.Test.YtolpckflofjfhaaDoorRows
import Derived.Test.YtolpckflofjfhaaDoorPIt
import Derived.Lib.LaidTab
import Derived.Stop.LaidErr
import Derived.Deep.DeepHandedRow
namespace Go.Proofs.YtolpckflofjfhaaDoor.P
open Go.RowKit
set_option maxRecDepth 100000
theorem la_g0 : Tryd.prog.globalNamed "internal/strconv.uint64pow10" = some 0 := by kernel_rfl
theorem la_t0 : (Tryd.prog.globals[0]?).map (·.type) = some 120 := by kernel_rfl
theorem la_c120 : Tryd.prog.cellsOf 120 = 20 := by kernel_rfl
theorem la_c112 : Tryd.prog.cellsOf 112 = 1 := by kernel_rfl
def laList : List (String × DataW Unit) := [("math/bits.deBruijn32tab", Rows.laid_math_bits_deBruijn32tab), ("math/bits.deBruijn64tab", Rows.laid_math_bits_deBruijn64tab), ("internal/strconv.uint64pow10", Rows.laid_internal_strconv_uint64pow10)]
theorem la_tb {W : World} (h : laidMetH Tryd.prog laList W) : Tb W :=
  Lib.tabIs_of_head (rest := []) la_g0 la_t0 Tryd.underlying120 Tryd.underlying112 la_c112 la_c120 (laidMet.tail (laidMet.tail (show laidMet Tryd.prog laList W from h)))
def la32 : List Int := [0, 1, 28, 2, 29, 14, 24, 3, 30, 22, 20, 15, 25, 17, 4, 8, 31, 27, 13, 23, 21, 19, 16, 7, 26, 12, 18, 6, 11, 5, 10, 9]
def la64 : List Int := [0, 1, 56, 2, 57, 49, 28, 3, 61, 58, 42, 50, 38, 29, 17, 4, 62, 47, 59, 36, 45, 43, 51, 22, 53, 39, 33, 30, 24, 18, 12, 5, 63, 55, 48, 27, 60, 41, 37, 16, 46, 35, 44, 21, 52, 32, 23, 11, 54, 26, 40, 15, 34, 20, 31, 10, 25, 14, 19, 9, 13, 8, 7, 6]
noncomputable def laidWorld (os : Os) : World :=
  let put := fun (vs : Array Value) (o : Obj) => match o with
    | .cells _ t frozen => Obj.cells vs t frozen
    | o => o
  { World.holding Tryd.prog os ⟨#[], #[], []⟩ with heap := (((World.holding Tryd.prog os ⟨#[], #[], []⟩).heap.modify 0 (put (Lib.pow10Tab.map (Value.int .u64)).toArray)).modify 1 (put (la32.map (Value.int .u8)).toArray)).modify 2 (put (la64.map (Value.int .u8)).toArray) }
end Go.Proofs.YtolpckflofjfhaaDoor.P
