/-
  Contracts of the laws' own helpers: of Deed, Line, Literal, Equation. Printed by gen_law.py.
-/
import Derived.Test.YtbgkhipclkhlcaaDoorRows
import Derived.Test.YtbgkhipclkhlcaaDoorT
import Derived.BigQuiet
import Derived.Lib.QuietBelow

namespace Go.Proofs.YtbgkhipclkhlcaaDoor
set_option linter.unusedVariables false
set_option linter.unusedSimpArgs false
open Go.RowKit Go.Sort
set_option maxRecDepth 100000
set_option maxHeartbeats 1000000 in
theorem eqLine_any (v1 v2 : Value) (x : Line) (bs1 bs2 : List Nat) (w : World) (h1 : Agg 4 RLine w v1 x bs1) (h2 : Agg 4 RLine w v2 x bs2) (_hm1 : InMem bs1 w) (_hm2 : InMem bs2 w) :
    Calls Tryd.prog 6 #[v1, v2] w (Says (.bool true) w) := by
  obtain ⟨rfl, g0, g1, g2, g3, hbs1⟩ := RLine.open h1
  obtain ⟨rfl, k0, k1, k2, k3, hbs2⟩ := RLine.open h2
  clear h1 h2
  clear hbs1 hbs2
  go_enter Tryd.func6, Tryd.ntmps6
  go_wp2
  go_ret
  exact ⟨rfl, (by repeat (first | with_reducible exact Below.refl _ _ | ((with_reducible refine Below.setCell ?_ ?_ _); rotate_left; focus first | (simp; done) | (simp; omega)) | ((with_reducible refine Below.alloc ?_ ?_ _); rotate_left; focus (first | (simp; done) | (simp; omega))) | with_reducible apply Below.drew))⟩

end Go.Proofs.YtbgkhipclkhlcaaDoor
