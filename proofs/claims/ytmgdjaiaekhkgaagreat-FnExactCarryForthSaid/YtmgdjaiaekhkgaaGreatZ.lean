/-
  The addresses of the structs' fields. Printed by gen_z.py.
-/
import Derived.Test.YtmgdjaiaekhkgaaGreatQ
import Derived.Test.YtmgdjaiaekhkgaaGreatProg
namespace Go.Proofs.YtmgdjaiaekhkgaaGreat
open Go.RowKit
theorem fa33_0 (a : Addr) (w : World) : (Instr.fieldAt 33 (.pointer (some a)) 0).run Tryz.prog w = .ok (.pointer (some (a.add 0))) w := vX (k := 0) (off := 0) Tryz.underlying33 rfl Tryz.sizeOf2 (by decide) rfl a w
theorem fa33_1 (a : Addr) (w : World) : (Instr.fieldAt 33 (.pointer (some a)) 1).run Tryz.prog w = .ok (.pointer (some (a.add 1))) w := vX (k := 1) (off := 1) Tryz.underlying33 rfl Tryz.sizeOf31 (by decide) rfl a w
theorem fa37_0 (a : Addr) (w : World) : (Instr.fieldAt 37 (.pointer (some a)) 0).run Tryz.prog w = .ok (.pointer (some (a.add 0))) w := vX (k := 0) (off := 0) Tryz.underlying37 rfl Tryz.sizeOf35 (by decide) rfl a w
theorem fa58_0 (a : Addr) (w : World) : (Instr.fieldAt 58 (.pointer (some a)) 0).run Tryz.prog w = .ok (.pointer (some (a.add 0))) w := vX (k := 0) (off := 0) Tryz.underlying58 rfl Tryz.sizeOf2 (by decide) rfl a w
theorem fa58_1 (a : Addr) (w : World) : (Instr.fieldAt 58 (.pointer (some a)) 1).run Tryz.prog w = .ok (.pointer (some (a.add 1))) w := vX (k := 1) (off := 1) Tryz.underlying58 rfl Tryz.sizeOf56 (by decide) rfl a w
theorem fa84_0 (a : Addr) (w : World) : (Instr.fieldAt 84 (.pointer (some a)) 0).run Tryz.prog w = .ok (.pointer (some (a.add 0))) w := vX (k := 0) (off := 0) Tryz.underlying84 rfl Tryz.sizeOf2 (by decide) rfl a w
theorem fa84_1 (a : Addr) (w : World) : (Instr.fieldAt 84 (.pointer (some a)) 1).run Tryz.prog w = .ok (.pointer (some (a.add 1))) w := vX (k := 1) (off := 1) Tryz.underlying84 rfl Tryz.sizeOf82 (by decide) rfl a w
theorem fa95_0 (a : Addr) (w : World) : (Instr.fieldAt 95 (.pointer (some a)) 0).run Tryz.prog w = .ok (.pointer (some (a.add 0))) w := vX (k := 0) (off := 0) Tryz.underlying95 rfl Tryz.sizeOf2 (by decide) rfl a w
theorem fa95_1 (a : Addr) (w : World) : (Instr.fieldAt 95 (.pointer (some a)) 1).run Tryz.prog w = .ok (.pointer (some (a.add 1))) w := vX (k := 1) (off := 1) Tryz.underlying95 rfl Tryz.sizeOf2 (by decide) rfl a w
theorem fa95_2 (a : Addr) (w : World) : (Instr.fieldAt 95 (.pointer (some a)) 2).run Tryz.prog w = .ok (.pointer (some (a.add 2))) w := vX (k := 2) (off := 2) Tryz.underlying95 rfl Tryz.sizeOf93 (by decide) rfl a w
theorem fa158_0 (a : Addr) (w : World) : (Instr.fieldAt 158 (.pointer (some a)) 0).run Tryz.prog w = .ok (.pointer (some (a.add 0))) w := vX (k := 0) (off := 0) Tryz.underlying158 rfl Tryz.sizeOf2 (by decide) rfl a w
theorem fa158_1 (a : Addr) (w : World) : (Instr.fieldAt 158 (.pointer (some a)) 1).run Tryz.prog w = .ok (.pointer (some (a.add 1))) w := vX (k := 1) (off := 1) Tryz.underlying158 rfl Tryz.sizeOf42 (by decide) rfl a w
theorem fa165_0 (a : Addr) (w : World) : (Instr.fieldAt 165 (.pointer (some a)) 0).run Tryz.prog w = .ok (.pointer (some (a.add 0))) w := vX (k := 0) (off := 0) Tryz.underlying165 rfl Tryz.sizeOf2 (by decide) rfl a w
theorem fa165_1 (a : Addr) (w : World) : (Instr.fieldAt 165 (.pointer (some a)) 1).run Tryz.prog w = .ok (.pointer (some (a.add 1))) w := vX (k := 1) (off := 1) Tryz.underlying165 rfl Tryz.sizeOf42 (by decide) rfl a w
theorem fa207_0 (a : Addr) (w : World) : (Instr.fieldAt 207 (.pointer (some a)) 0).run Tryz.prog w = .ok (.pointer (some (a.add 0))) w := vX (k := 0) (off := 0) Tryz.underlying207 rfl Tryz.sizeOf74 (by decide) rfl a w
theorem fa207_1 (a : Addr) (w : World) : (Instr.fieldAt 207 (.pointer (some a)) 1).run Tryz.prog w = .ok (.pointer (some (a.add 1))) w := vX (k := 1) (off := 1) Tryz.underlying207 rfl Tryz.sizeOf103 (by decide) rfl a w
theorem fa257_0 (a : Addr) (w : World) : (Instr.fieldAt 257 (.pointer (some a)) 0).run Tryz.prog w = .ok (.pointer (some (a.add 0))) w := vX (k := 0) (off := 0) Tryz.underlying257 rfl Tryz.sizeOf33 (by decide) rfl a w
theorem fa257_1 (a : Addr) (w : World) : (Instr.fieldAt 257 (.pointer (some a)) 1).run Tryz.prog w = .ok (.pointer (some (a.add 2))) w := vX (k := 1) (off := 2) Tryz.underlying257 rfl Tryz.sizeOf2 (by decide) rfl a w
theorem fa257_2 (a : Addr) (w : World) : (Instr.fieldAt 257 (.pointer (some a)) 2).run Tryz.prog w = .ok (.pointer (some (a.add 3))) w := vX (k := 2) (off := 3) Tryz.underlying257 rfl Tryz.sizeOf255 (by decide) rfl a w
end Go.Proofs.YtmgdjaiaekhkgaaGreat
