/-
  What a row that lists variables gives: the table of the powers of ten.
-/
import Derived.Test.YtbgkhipclkhlcaaGreatDoorGL
import Derived.Test.YtbgkhipclkhlcaaGreatDoorP
import Derived.Test.YtbgkhipclkhlcaaGreatDoorCards
import Derived.Test.YtbgkhipclkhlcaaGreatDoorTie
import Derived.Lib.LaidU8
import Derived.Deep.DeepHandedRow
import Derived.Lay
import Derived.LaidOnce
import Derived.SevenTiedAt
namespace Go.Proofs.YtbgkhipclkhlcaaGreatDoor
open Go.ChangeShapes Go.WideShapes Go.ChangeAt Go.RowKit
set_option maxRecDepth 100000
theorem tab_data : Rows.laid_internal_strconv_uint64pow10 (H := Unit) = Lib.tabData .u64 Lib.pow10Tab := by rfl
theorem tab_of_laid {W : World} {l : List (String × DataW Unit)} (h : laidMet Tryz.prog l W) (hm : ("internal/strconv.uint64pow10", Lib.tabData .u64 Lib.pow10Tab) ∈ l) : Lib.TabIs Tryz.prog W "internal/strconv.uint64pow10" .u64 Lib.pow10Tab := by
  obtain ⟨g, t, cs, fuel, p, h1, h2, h3, h4⟩ := Lib.laidMet.reads h hm
  have hb : (Tryz.prog.globalNamed "internal/strconv.uint64pow10").bind (fun g => (Tryz.prog.globals[g]?).map (·.type)) = some 136 := by kernel_rfl
  rw [h1] at hb
  obtain rfl := Option.some.inj (hb.symm.trans h2)
  have := Lib.cells_of_tab Tryz.underlying136 Tryz.underlying99 (by kernel_rfl) (by kernel_rfl) h4
  unfold Lib.TabIs
  rw [h3, ← this]
end Go.Proofs.YtbgkhipclkhlcaaGreatDoor
