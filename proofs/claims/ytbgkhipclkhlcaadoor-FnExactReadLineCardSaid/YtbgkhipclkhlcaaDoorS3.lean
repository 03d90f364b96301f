/-
  Functions of the program as plain functions, and that they compute them. Printed by fxio.py.
-/
import Derived.Test.YtbgkhipclkhlcaaDoorS1
namespace Go.Proofs.YtbgkhipclkhlcaaDoor
set_option linter.unusedVariables false
set_option linter.unusedSimpArgs false
set_option maxRecDepth 100000
open Go.RowKit
end Go.Proofs.YtbgkhipclkhlcaaDoor
