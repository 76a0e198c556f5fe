import Derived.Test.YtlpdcdkjmcpfdaaDoorRows
import Derived.Test.YtlpdcdkjmcpfdaaDoorPTx1
import Derived.Lib.LaidU8
import Derived.Lay
import Derived.MakeChecks
namespace Go.Proofs.YtlpdcdkjmcpfdaaDoor
set_option maxRecDepth 100000 in
theorem tab_data : (Rows.laid_math_bits_deBruijn64tab : DataW Unit) = Lib.tabData .u8 (Lib.deBruijn64tab.map Int.ofNat) := by kernel_rfl
set_option maxRecDepth 100000 in
theorem gok_of_laid {W : World} (h : laidMet Tryd.prog [("math/bits.deBruijn64tab", Rows.laid_math_bits_deBruijn64tab)] W) : PT.GOk W := by
  intro j hj
  obtain ⟨g, t, cs, fuel, p, hg, hty, hvar, hd⟩ := Lib.laidMet.reads h (.head _)
  obtain rfl := Option.some.inj ((show Tryd.prog.globalNamed "math/bits.deBruijn64tab" = some 0 by kernel_rfl).symm.trans hg)
  obtain rfl := Option.some.inj ((show (Tryd.prog.globals[0]?).map (·.type) = some 137 by kernel_rfl).symm.trans hty)
  rw [tab_data] at hd
  have hcs := Lib.cells_of_tab Tryd.underlying137 Tryd.underlying5 (by kernel_rfl) (by kernel_rfl) hd
  rw [World.var?_cell hg hvar j, ← Array.getElem?_toList, hcs]
  rw [List.getElem?_map, List.getElem?_map, List.getD_eq_getElem?_getD, List.getElem?_eq_getElem hj]
  rfl
end Go.Proofs.YtlpdcdkjmcpfdaaDoor
