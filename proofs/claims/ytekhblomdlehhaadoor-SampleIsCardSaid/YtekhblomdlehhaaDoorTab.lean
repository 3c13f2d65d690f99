/- The table of powers, out of what the row lists. -/
import Derived.Test.YtekhblomdlehhaaDoorDig
import Derived.Test.YtekhblomdlehhaaDoorRows
import Derived.Lib.LaidTab
import Derived.LaidLaws
import Derived.Stop.LaidErr
set_option linter.unusedVariables false
set_option maxRecDepth 100000
set_option linter.unusedSimpArgs false
namespace Go.Proofs.YtekhblomdlehhaaDoor
theorem gPowType : (Tryd.prog.globals[0]?).map (·.type) = some 138 := by kernel_rfl
theorem powCells : Tryd.prog.cellsOf 138 = 20 := by kernel_rfl
theorem u64Cells : Tryd.prog.cellsOf 111 = 1 := by kernel_rfl
def laid3 : List (String × DataW Unit) := [("math/bits.deBruijn32tab", Rows.laid_math_bits_deBruijn32tab), ("math/bits.deBruijn64tab", Rows.laid_math_bits_deBruijn64tab), ("internal/strconv.uint64pow10", Rows.laid_internal_strconv_uint64pow10)]
theorem tab_of {W : World} (h : laidMetH Tryd.prog laid3 W) : Tab W := by
  have h1 : laidMet Tryd.prog laid3 W := h
  have h2 := laidMet.tail (laidMet.tail h1)
  have e : Rows.laid_internal_strconv_uint64pow10 (H := Unit) = Lib.tabData .u64 Lib.pow10Tab := by kernel_rfl
  rw [e] at h2
  exact Lib.tabIs_of_head gPow gPowType Tryd.underlying138 Tryd.underlying111 u64Cells powCells h2
end Go.Proofs.YtekhblomdlehhaaDoor
