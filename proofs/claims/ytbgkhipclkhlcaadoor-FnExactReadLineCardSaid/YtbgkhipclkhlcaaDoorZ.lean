/-
  The addresses of the structs' fields. Printed by gen_z.py.
-/
import Derived.Test.YtbgkhipclkhlcaaDoorQ
import Derived.Test.YtbgkhipclkhlcaaDoorProg
namespace Go.Proofs.YtbgkhipclkhlcaaDoor
open Go.RowKit
theorem fa23_0 (a : Addr) (w : World) : (Instr.fieldAt 23 (.pointer (some a)) 0).run Tryd.prog w = .ok (.pointer (some (a.add 0))) w := fieldAt_run (k := 0) (off := 0) Tryd.underlying23 rfl Tryd.sizeOf2 (by decide) rfl a w
theorem fa23_1 (a : Addr) (w : World) : (Instr.fieldAt 23 (.pointer (some a)) 1).run Tryd.prog w = .ok (.pointer (some (a.add 1))) w := fieldAt_run (k := 1) (off := 1) Tryd.underlying23 rfl Tryd.sizeOf2 (by decide) rfl a w
theorem fa23_2 (a : Addr) (w : World) : (Instr.fieldAt 23 (.pointer (some a)) 2).run Tryd.prog w = .ok (.pointer (some (a.add 2))) w := fieldAt_run (k := 2) (off := 2) Tryd.underlying23 rfl Tryd.sizeOf2 (by decide) rfl a w
theorem fa23_3 (a : Addr) (w : World) : (Instr.fieldAt 23 (.pointer (some a)) 3).run Tryd.prog w = .ok (.pointer (some (a.add 3))) w := fieldAt_run (k := 3) (off := 3) Tryd.underlying23 rfl Tryd.sizeOf2 (by decide) rfl a w
end Go.Proofs.YtbgkhipclkhlcaaDoor
