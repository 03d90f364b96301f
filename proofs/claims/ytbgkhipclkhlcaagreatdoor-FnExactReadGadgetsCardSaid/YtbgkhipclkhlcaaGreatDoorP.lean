/-
  The laws' arguments opened. Printed by gen_p.py.
-/
import Derived.Test.YtbgkhipclkhlcaaGreatDoorRows
import Derived.Test.YtbgkhipclkhlcaaGreatDoorO
namespace Go.Proofs.YtbgkhipclkhlcaaGreatDoor
set_option linter.unusedVariables false
set_option linter.unusedSimpArgs false
open Go.ChangeShapes Go.WideShapes Go.ChangeAt Go.RowKit Go.Deep
theorem Tryz.laidOut : laidOutB Tryz.prog = true := by kernel_rfl
theorem opens_I : Opens Tryz.prog 2 1 RInt := opens_int Tryz.underlying2
theorem opens_SI : Opens Tryz.prog 44 1 (RSl 1 RInt) := opens_slice Tryz.underlying44 (by kernel_rfl) (by decide) RInt.fr opens_I
end Go.Proofs.YtbgkhipclkhlcaaGreatDoor
