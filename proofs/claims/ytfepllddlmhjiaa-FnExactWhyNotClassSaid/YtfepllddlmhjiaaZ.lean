/-
  The addresses of the structs' fields. Printed by gen_z.py.
-/
import Derived.Test.YtfepllddlmhjiaaQ
import Derived.Test.YtfepllddlmhjiaaProg
namespace Go.Proofs.Ytfepllddlmhjiaa
open Go.RowKit
theorem fa24_0 (a : Addr) (w : World) : (Instr.fieldAt 24 (.pointer (some a)) 0).run Try.prog w = .ok (.pointer (some (a.add 0))) w := fieldAt_run (k := 0) (off := 0) Try.underlying24 rfl Try.sizeOf2 (by decide) rfl a w
theorem fa24_1 (a : Addr) (w : World) : (Instr.fieldAt 24 (.pointer (some a)) 1).run Try.prog w = .ok (.pointer (some (a.add 1))) w := fieldAt_run (k := 1) (off := 1) Try.underlying24 rfl Try.sizeOf22 (by decide) rfl a w
theorem fa32_0 (a : Addr) (w : World) : (Instr.fieldAt 32 (.pointer (some a)) 0).run Try.prog w = .ok (.pointer (some (a.add 0))) w := fieldAt_run (k := 0) (off := 0) Try.underlying32 rfl Try.sizeOf2 (by decide) rfl a w
theorem fa32_1 (a : Addr) (w : World) : (Instr.fieldAt 32 (.pointer (some a)) 1).run Try.prog w = .ok (.pointer (some (a.add 1))) w := fieldAt_run (k := 1) (off := 1) Try.underlying32 rfl Try.sizeOf30 (by decide) rfl a w
theorem fa45_0 (a : Addr) (w : World) : (Instr.fieldAt 45 (.pointer (some a)) 0).run Try.prog w = .ok (.pointer (some (a.add 0))) w := fieldAt_run (k := 0) (off := 0) Try.underlying45 rfl Try.sizeOf2 (by decide) rfl a w
theorem fa45_1 (a : Addr) (w : World) : (Instr.fieldAt 45 (.pointer (some a)) 1).run Try.prog w = .ok (.pointer (some (a.add 1))) w := fieldAt_run (k := 1) (off := 1) Try.underlying45 rfl Try.sizeOf27 (by decide) rfl a w
theorem fa53_0 (a : Addr) (w : World) : (Instr.fieldAt 53 (.pointer (some a)) 0).run Try.prog w = .ok (.pointer (some (a.add 0))) w := fieldAt_run (k := 0) (off := 0) Try.underlying53 rfl Try.sizeOf2 (by decide) rfl a w
theorem fa53_1 (a : Addr) (w : World) : (Instr.fieldAt 53 (.pointer (some a)) 1).run Try.prog w = .ok (.pointer (some (a.add 1))) w := fieldAt_run (k := 1) (off := 1) Try.underlying53 rfl Try.sizeOf26 (by decide) rfl a w
theorem fa63_0 (a : Addr) (w : World) : (Instr.fieldAt 63 (.pointer (some a)) 0).run Try.prog w = .ok (.pointer (some (a.add 0))) w := fieldAt_run (k := 0) (off := 0) Try.underlying63 rfl Try.sizeOf2 (by decide) rfl a w
theorem fa63_1 (a : Addr) (w : World) : (Instr.fieldAt 63 (.pointer (some a)) 1).run Try.prog w = .ok (.pointer (some (a.add 1))) w := fieldAt_run (k := 1) (off := 1) Try.underlying63 rfl Try.sizeOf26 (by decide) rfl a w
theorem fa74_2 (a : Addr) (w : World) : (Instr.fieldAt 74 (.pointer (some a)) 2).run Try.prog w = .ok (.pointer (some (a.add 2))) w := fieldAt_run (k := 2) (off := 2) Try.underlying74 rfl Try.sizeOf72 (by decide) rfl a w
end Go.Proofs.Ytfepllddlmhjiaa
