/-
  The laws' arguments opened. Printed by gen_p.py.
-/
import Derived.Test.YtbgkhipclkhlcaaDoorRows
import Derived.Test.YtbgkhipclkhlcaaDoorO
namespace Go.Proofs.YtbgkhipclkhlcaaDoor
set_option linter.unusedVariables false
set_option linter.unusedSimpArgs false
open Go.ChangeShapes Go.WideShapes Go.ChangeAt Go.RowKit Go.Deep
theorem Tryd.laidOut : laidOutB Tryd.prog = true := by kernel_rfl
theorem opens_I : Opens Tryd.prog 2 1 RInt := opens_int Tryd.underlying2
theorem opens_SI : Opens Tryd.prog 41 1 (RSl 1 RInt) := opens_slice Tryd.underlying41 (by kernel_rfl) (by decide) RInt.fr opens_I
end Go.Proofs.YtbgkhipclkhlcaaDoor
