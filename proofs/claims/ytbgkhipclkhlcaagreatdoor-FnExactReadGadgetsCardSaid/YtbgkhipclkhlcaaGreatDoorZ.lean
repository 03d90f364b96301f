/-
  The addresses of the structs' fields. Printed by gen_z.py.
-/
import Derived.Test.YtbgkhipclkhlcaaGreatDoorQ
import Derived.Test.YtbgkhipclkhlcaaGreatDoorProg
namespace Go.Proofs.YtbgkhipclkhlcaaGreatDoor
open Go.RowKit
theorem fa24_0 (a : Addr) (w : World) : (Instr.fieldAt 24 (.pointer (some a)) 0).run Tryz.prog w = .ok (.pointer (some (a.add 0))) w := fieldAt_run (k := 0) (off := 0) Tryz.underlying24 rfl Tryz.sizeOf22 (by decide) rfl a w
theorem fa34_0 (a : Addr) (w : World) : (Instr.fieldAt 34 (.pointer (some a)) 0).run Tryz.prog w = .ok (.pointer (some (a.add 0))) w := fieldAt_run (k := 0) (off := 0) Tryz.underlying34 rfl Tryz.sizeOf2 (by decide) rfl a w
theorem fa34_1 (a : Addr) (w : World) : (Instr.fieldAt 34 (.pointer (some a)) 1).run Tryz.prog w = .ok (.pointer (some (a.add 1))) w := fieldAt_run (k := 1) (off := 1) Tryz.underlying34 rfl Tryz.sizeOf2 (by decide) rfl a w
theorem fa34_2 (a : Addr) (w : World) : (Instr.fieldAt 34 (.pointer (some a)) 2).run Tryz.prog w = .ok (.pointer (some (a.add 2))) w := fieldAt_run (k := 2) (off := 2) Tryz.underlying34 rfl Tryz.sizeOf32 (by decide) rfl a w
theorem fa46_0 (a : Addr) (w : World) : (Instr.fieldAt 46 (.pointer (some a)) 0).run Tryz.prog w = .ok (.pointer (some (a.add 0))) w := fieldAt_run (k := 0) (off := 0) Tryz.underlying46 rfl Tryz.sizeOf2 (by decide) rfl a w
theorem fa46_1 (a : Addr) (w : World) : (Instr.fieldAt 46 (.pointer (some a)) 1).run Tryz.prog w = .ok (.pointer (some (a.add 1))) w := fieldAt_run (k := 1) (off := 1) Tryz.underlying46 rfl Tryz.sizeOf44 (by decide) rfl a w
end Go.Proofs.YtbgkhipclkhlcaaGreatDoor
