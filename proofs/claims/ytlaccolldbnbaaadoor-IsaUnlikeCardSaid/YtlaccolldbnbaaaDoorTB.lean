/-
  THE TABLE OF POWERS OF TEN LIES IN MEMORY, out of the row's condition.
-/
import Derived.Test.YtlaccolldbnbaaaDoorRows
import Derived.Test.YtlaccolldbnbaaaDoorSH
import Derived.WalkKit
import Derived.ProofKit
import Derived.MakeChecks
namespace Go.Proofs.YtlaccolldbnbaaaDoor.Gx
open Go.RowKit
set_option linter.unusedVariables false
theorem laid_is : (Rows.laid_internal_strconv_uint64pow10 : DataW Unit) = Lib.tabData .u64 Lib.pow10Tab := by kernel_rfl
theorem tab_of_laid {W : World} (h : laidMet Tryd.prog [("math/bits.deBruijn32tab", Rows.laid_math_bits_deBruijn32tab), ("math/bits.deBruijn64tab", Rows.laid_math_bits_deBruijn64tab), ("internal/strconv.uint64pow10", Rows.laid_internal_strconv_uint64pow10)] W) : TabW W := by
  obtain ⟨ps, ⟨g0, t0, cs0, f0, p0, q0, hg0, ht0, hv0, hd0, ⟨g1, t1, cs1, f1, p1, q1, hg1, ht1, hv1, hd1, ⟨g2, t2, cs2, f2, p2, q2, hg2, ht2, hv2, hd2, _⟩, _⟩, _⟩, _⟩ := h
  have hg : Tryd.prog.globalNamed "internal/strconv.uint64pow10" = some 0 := by kernel_rfl
  have hty : (Tryd.prog.globals[0]?).map (·.type) = some 78 := by kernel_rfl
  have ht : Tryd.prog.underlying 78 = some (.array 20 56) := by kernel_rfl
  have he : Tryd.prog.underlying 56 = some (.int .u64) := by kernel_rfl
  have hce : Tryd.prog.cellsOf 56 = 1 := by kernel_rfl
  have hct : Tryd.prog.cellsOf 78 = 20 := by kernel_rfl
  obtain rfl := Option.some.inj (hg.symm.trans hg2)
  obtain rfl := Option.some.inj (hty.symm.trans ht2)
  unfold TabW Lib.TabIs
  rw [laid_is] at hd2
  rw [hv2, ← Lib.cells_of_tab ht he hce hct hd2]
end Go.Proofs.YtlaccolldbnbaaaDoor.Gx
