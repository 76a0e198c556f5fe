import Derived.Test.YtpldhihdlgghlaaDoorRows
import Derived.Test.YtpldhihdlgghlaaDoorPSx1
import Derived.Lib.LaidU8
import Derived.Lib.LaidTab
import Derived.Lay
import Derived.MakeChecks
namespace Go.Proofs.YtpldhihdlgghlaaDoor
set_option maxRecDepth 100000 in
theorem tab_data : (Rows.laid_internal_strconv_uint64pow10 : DataW Unit) = Lib.tabData .u64 Lib.pow10Tab := by kernel_rfl
set_option maxRecDepth 100000 in
theorem gok_of_laid {W : World} (h : laidMet Tryd.prog [("math/bits.deBruijn32tab", Rows.laid_math_bits_deBruijn32tab), ("math/bits.deBruijn64tab", Rows.laid_math_bits_deBruijn64tab), ("internal/strconv.uint64pow10", Rows.laid_internal_strconv_uint64pow10)] W) : PS.GOk W := by
  obtain ⟨g, t, cs, fuel, p, hg, hty, hvar, hd⟩ := Lib.laidMet.reads h (.tail _ (.tail _ (.head _)))
  obtain rfl := Option.some.inj ((show Tryd.prog.globalNamed "internal/strconv.uint64pow10" = some 0 by kernel_rfl).symm.trans hg)
  obtain rfl := Option.some.inj ((show (Tryd.prog.globals[0]?).map (·.type) = some 96 by kernel_rfl).symm.trans hty)
  rw [tab_data] at hd
  have hcs := Lib.cells_of_tab Tryd.underlying96 Tryd.underlying85 (by kernel_rfl) (by kernel_rfl) hd
  unfold PS.GOk Lib.TabIs
  rw [hvar, ← hcs]
end Go.Proofs.YtpldhihdlgghlaaDoor
