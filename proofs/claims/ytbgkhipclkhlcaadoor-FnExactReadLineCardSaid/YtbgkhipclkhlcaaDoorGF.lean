/-
  What a row that lists variables gives: the table of the powers of ten.
-/
import Derived.Test.YtbgkhipclkhlcaaDoorGL
import Derived.Test.YtbgkhipclkhlcaaDoorP
import Derived.Test.YtbgkhipclkhlcaaDoorCards
import Derived.Test.YtbgkhipclkhlcaaDoorTie
import Derived.Lib.LaidU8
import Derived.Deep.DeepHandedRow
import Derived.Lay
import Derived.LaidOnce
import Derived.SevenTiedAt
namespace Go.Proofs.YtbgkhipclkhlcaaDoor
open Go.ChangeShapes Go.WideShapes Go.ChangeAt Go.RowKit
set_option maxRecDepth 100000
theorem tab_data : Rows.laid_internal_strconv_uint64pow10 (H := Unit) = Lib.tabData .u64 Lib.pow10Tab := by rfl
theorem tab_of_laid {W : World} {l : List (String × DataW Unit)} (h : laidMet Tryd.prog l W) (hm : ("internal/strconv.uint64pow10", Lib.tabData .u64 Lib.pow10Tab) ∈ l) : Lib.TabIs Tryd.prog W "internal/strconv.uint64pow10" .u64 Lib.pow10Tab := by
  obtain ⟨g, t, cs, fuel, p, h1, h2, h3, h4⟩ := Lib.laidMet.reads h hm
  have hb : (Tryd.prog.globalNamed "internal/strconv.uint64pow10").bind (fun g => (Tryd.prog.globals[g]?).map (·.type)) = some 114 := by kernel_rfl
  rw [h1] at hb
  obtain rfl := Option.some.inj (hb.symm.trans h2)
  have := Lib.cells_of_tab Tryd.underlying114 Tryd.underlying73 (by kernel_rfl) (by kernel_rfl) h4
  unfold Lib.TabIs
  rw [h3, ← this]
end Go.Proofs.YtbgkhipclkhlcaaDoor
