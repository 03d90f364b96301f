/-
  The addresses of the structs' fields. Printed by gen_z.py.
-/
import Derived.Test.YtjjdbdlbjdoebaaDoorQ
import Derived.Test.YtjjdbdlbjdoebaaDoorProg
namespace Go.Proofs.YtjjdbdlbjdoebaaDoor
open Go.RowKit
theorem fa23_0 (a : Addr) (w : World) : (Instr.fieldAt 23 (.pointer (some a)) 0).run Tryd.prog w = .ok (.pointer (some (a.add 0))) w := fieldAt_run (k := 0) (off := 0) Tryd.underlying23 rfl Tryd.sizeOf2 (by decide) rfl a w
theorem fa23_1 (a : Addr) (w : World) : (Instr.fieldAt 23 (.pointer (some a)) 1).run Tryd.prog w = .ok (.pointer (some (a.add 1))) w := fieldAt_run (k := 1) (off := 1) Tryd.underlying23 rfl Tryd.sizeOf2 (by decide) rfl a w
theorem fa23_2 (a : Addr) (w : World) : (Instr.fieldAt 23 (.pointer (some a)) 2).run Tryd.prog w = .ok (.pointer (some (a.add 2))) w := fieldAt_run (k := 2) (off := 2) Tryd.underlying23 rfl Tryd.sizeOf2 (by decide) rfl a w
theorem fa23_3 (a : Addr) (w : World) : (Instr.fieldAt 23 (.pointer (some a)) 3).run Tryd.prog w = .ok (.pointer (some (a.add 3))) w := fieldAt_run (k := 3) (off := 3) Tryd.underlying23 rfl Tryd.sizeOf2 (by decide) rfl a w
theorem fa25_0 (a : Addr) (w : World) : (Instr.fieldAt 25 (.pointer (some a)) 0).run Tryd.prog w = .ok (.pointer (some (a.add 0))) w := fieldAt_run (k := 0) (off := 0) Tryd.underlying25 rfl Tryd.sizeOf2 (by decide) rfl a w
theorem fa25_1 (a : Addr) (w : World) : (Instr.fieldAt 25 (.pointer (some a)) 1).run Tryd.prog w = .ok (.pointer (some (a.add 1))) w := fieldAt_run (k := 1) (off := 1) Tryd.underlying25 rfl Tryd.sizeOf2 (by decide) rfl a w
theorem fa25_2 (a : Addr) (w : World) : (Instr.fieldAt 25 (.pointer (some a)) 2).run Tryd.prog w = .ok (.pointer (some (a.add 2))) w := fieldAt_run (k := 2) (off := 2) Tryd.underlying25 rfl Tryd.sizeOf2 (by decide) rfl a w
theorem fa25_3 (a : Addr) (w : World) : (Instr.fieldAt 25 (.pointer (some a)) 3).run Tryd.prog w = .ok (.pointer (some (a.add 3))) w := fieldAt_run (k := 3) (off := 3) Tryd.underlying25 rfl Tryd.sizeOf2 (by decide) rfl a w
theorem fa36_0 (a : Addr) (w : World) : (Instr.fieldAt 36 (.pointer (some a)) 0).run Tryd.prog w = .ok (.pointer (some (a.add 0))) w := fieldAt_run (k := 0) (off := 0) Tryd.underlying36 rfl Tryd.sizeOf2 (by decide) rfl a w
theorem fa36_1 (a : Addr) (w : World) : (Instr.fieldAt 36 (.pointer (some a)) 1).run Tryd.prog w = .ok (.pointer (some (a.add 1))) w := fieldAt_run (k := 1) (off := 1) Tryd.underlying36 rfl Tryd.sizeOf2 (by decide) rfl a w
theorem fa36_2 (a : Addr) (w : World) : (Instr.fieldAt 36 (.pointer (some a)) 2).run Tryd.prog w = .ok (.pointer (some (a.add 2))) w := fieldAt_run (k := 2) (off := 2) Tryd.underlying36 rfl Tryd.sizeOf2 (by decide) rfl a w
theorem fa38_0 (a : Addr) (w : World) : (Instr.fieldAt 38 (.pointer (some a)) 0).run Tryd.prog w = .ok (.pointer (some (a.add 0))) w := fieldAt_run (k := 0) (off := 0) Tryd.underlying38 rfl Tryd.sizeOf2 (by decide) rfl a w
theorem fa38_1 (a : Addr) (w : World) : (Instr.fieldAt 38 (.pointer (some a)) 1).run Tryd.prog w = .ok (.pointer (some (a.add 1))) w := fieldAt_run (k := 1) (off := 1) Tryd.underlying38 rfl Tryd.sizeOf2 (by decide) rfl a w
theorem fa38_2 (a : Addr) (w : World) : (Instr.fieldAt 38 (.pointer (some a)) 2).run Tryd.prog w = .ok (.pointer (some (a.add 2))) w := fieldAt_run (k := 2) (off := 2) Tryd.underlying38 rfl Tryd.sizeOf2 (by decide) rfl a w
theorem fa43_0 (a : Addr) (w : World) : (Instr.fieldAt 43 (.pointer (some a)) 0).run Tryd.prog w = .ok (.pointer (some (a.add 0))) w := fieldAt_run (k := 0) (off := 0) Tryd.underlying43 rfl Tryd.sizeOf41 (by decide) rfl a w
theorem fa48_0 (a : Addr) (w : World) : (Instr.fieldAt 48 (.pointer (some a)) 0).run Tryd.prog w = .ok (.pointer (some (a.add 0))) w := fieldAt_run (k := 0) (off := 0) Tryd.underlying48 rfl Tryd.sizeOf46 (by decide) rfl a w
theorem fa89_0 (a : Addr) (w : World) : (Instr.fieldAt 89 (.pointer (some a)) 0).run Tryd.prog w = .ok (.pointer (some (a.add 0))) w := fieldAt_run (k := 0) (off := 0) Tryd.underlying89 rfl Tryd.sizeOf2 (by decide) rfl a w
theorem fa89_1 (a : Addr) (w : World) : (Instr.fieldAt 89 (.pointer (some a)) 1).run Tryd.prog w = .ok (.pointer (some (a.add 1))) w := fieldAt_run (k := 1) (off := 1) Tryd.underlying89 rfl Tryd.sizeOf2 (by decide) rfl a w
theorem fa89_2 (a : Addr) (w : World) : (Instr.fieldAt 89 (.pointer (some a)) 2).run Tryd.prog w = .ok (.pointer (some (a.add 2))) w := fieldAt_run (k := 2) (off := 2) Tryd.underlying89 rfl Tryd.sizeOf87 (by decide) rfl a w
theorem fa115_0 (a : Addr) (w : World) : (Instr.fieldAt 115 (.pointer (some a)) 0).run Tryd.prog w = .ok (.pointer (some (a.add 0))) w := fieldAt_run (k := 0) (off := 0) Tryd.underlying115 rfl Tryd.sizeOf2 (by decide) rfl a w
theorem fa115_1 (a : Addr) (w : World) : (Instr.fieldAt 115 (.pointer (some a)) 1).run Tryd.prog w = .ok (.pointer (some (a.add 1))) w := fieldAt_run (k := 1) (off := 1) Tryd.underlying115 rfl Tryd.sizeOf2 (by decide) rfl a w
theorem fa115_2 (a : Addr) (w : World) : (Instr.fieldAt 115 (.pointer (some a)) 2).run Tryd.prog w = .ok (.pointer (some (a.add 2))) w := fieldAt_run (k := 2) (off := 2) Tryd.underlying115 rfl Tryd.sizeOf113 (by decide) rfl a w
theorem fa122_0 (a : Addr) (w : World) : (Instr.fieldAt 122 (.pointer (some a)) 0).run Tryd.prog w = .ok (.pointer (some (a.add 0))) w := fieldAt_run (k := 0) (off := 0) Tryd.underlying122 rfl Tryd.sizeOf2 (by decide) rfl a w
theorem fa122_1 (a : Addr) (w : World) : (Instr.fieldAt 122 (.pointer (some a)) 1).run Tryd.prog w = .ok (.pointer (some (a.add 1))) w := fieldAt_run (k := 1) (off := 1) Tryd.underlying122 rfl Tryd.sizeOf66 (by decide) rfl a w
theorem fa153_0 (a : Addr) (w : World) : (Instr.fieldAt 153 (.pointer (some a)) 0).run Tryd.prog w = .ok (.pointer (some (a.add 0))) w := fieldAt_run (k := 0) (off := 0) Tryd.underlying153 rfl Tryd.sizeOf2 (by decide) rfl a w
theorem fa153_1 (a : Addr) (w : World) : (Instr.fieldAt 153 (.pointer (some a)) 1).run Tryd.prog w = .ok (.pointer (some (a.add 1))) w := fieldAt_run (k := 1) (off := 1) Tryd.underlying153 rfl Tryd.sizeOf66 (by decide) rfl a w
end Go.Proofs.YtjjdbdlbjdoebaaDoor
