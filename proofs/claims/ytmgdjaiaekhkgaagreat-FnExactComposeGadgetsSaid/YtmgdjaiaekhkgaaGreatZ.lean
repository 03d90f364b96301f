/-
  The addresses of the structs' fields. Printed by gen_z.py.
-/
import Derived.Test.YtmgdjaiaekhkgaaGreatQ
import Derived.Test.YtmgdjaiaekhkgaaGreatProg
namespace Go.Proofs.YtmgdjaiaekhkgaaGreat
open Go.RowKit
theorem fa24_0 (a : Addr) (w : World) : (Instr.fieldAt 24 (.pointer (some a)) 0).run Tryz.prog w = .ok (.pointer (some (a.add 0))) w := fieldAt_run (k := 0) (off := 0) Tryz.underlying24 rfl Tryz.sizeOf2 (by decide) rfl a w
theorem fa24_1 (a : Addr) (w : World) : (Instr.fieldAt 24 (.pointer (some a)) 1).run Tryz.prog w = .ok (.pointer (some (a.add 1))) w := fieldAt_run (k := 1) (off := 1) Tryz.underlying24 rfl Tryz.sizeOf22 (by decide) rfl a w
theorem fa27_0 (a : Addr) (w : World) : (Instr.fieldAt 27 (.pointer (some a)) 0).run Tryz.prog w = .ok (.pointer (some (a.add 0))) w := fieldAt_run (k := 0) (off := 0) Tryz.underlying27 rfl Tryz.sizeOf25 (by decide) rfl a w
theorem fa33_0 (a : Addr) (w : World) : (Instr.fieldAt 33 (.pointer (some a)) 0).run Tryz.prog w = .ok (.pointer (some (a.add 0))) w := fieldAt_run (k := 0) (off := 0) Tryz.underlying33 rfl Tryz.sizeOf2 (by decide) rfl a w
theorem fa33_1 (a : Addr) (w : World) : (Instr.fieldAt 33 (.pointer (some a)) 1).run Tryz.prog w = .ok (.pointer (some (a.add 1))) w := fieldAt_run (k := 1) (off := 1) Tryz.underlying33 rfl Tryz.sizeOf31 (by decide) rfl a w
theorem fa37_0 (a : Addr) (w : World) : (Instr.fieldAt 37 (.pointer (some a)) 0).run Tryz.prog w = .ok (.pointer (some (a.add 0))) w := fieldAt_run (k := 0) (off := 0) Tryz.underlying37 rfl Tryz.sizeOf35 (by decide) rfl a w
theorem fa54_0 (a : Addr) (w : World) : (Instr.fieldAt 54 (.pointer (some a)) 0).run Tryz.prog w = .ok (.pointer (some (a.add 0))) w := fieldAt_run (k := 0) (off := 0) Tryz.underlying54 rfl Tryz.sizeOf2 (by decide) rfl a w
theorem fa54_1 (a : Addr) (w : World) : (Instr.fieldAt 54 (.pointer (some a)) 1).run Tryz.prog w = .ok (.pointer (some (a.add 1))) w := fieldAt_run (k := 1) (off := 1) Tryz.underlying54 rfl Tryz.sizeOf52 (by decide) rfl a w
theorem fa58_0 (a : Addr) (w : World) : (Instr.fieldAt 58 (.pointer (some a)) 0).run Tryz.prog w = .ok (.pointer (some (a.add 0))) w := fieldAt_run (k := 0) (off := 0) Tryz.underlying58 rfl Tryz.sizeOf2 (by decide) rfl a w
theorem fa58_1 (a : Addr) (w : World) : (Instr.fieldAt 58 (.pointer (some a)) 1).run Tryz.prog w = .ok (.pointer (some (a.add 1))) w := fieldAt_run (k := 1) (off := 1) Tryz.underlying58 rfl Tryz.sizeOf56 (by decide) rfl a w
theorem fa84_0 (a : Addr) (w : World) : (Instr.fieldAt 84 (.pointer (some a)) 0).run Tryz.prog w = .ok (.pointer (some (a.add 0))) w := fieldAt_run (k := 0) (off := 0) Tryz.underlying84 rfl Tryz.sizeOf2 (by decide) rfl a w
theorem fa84_1 (a : Addr) (w : World) : (Instr.fieldAt 84 (.pointer (some a)) 1).run Tryz.prog w = .ok (.pointer (some (a.add 1))) w := fieldAt_run (k := 1) (off := 1) Tryz.underlying84 rfl Tryz.sizeOf82 (by decide) rfl a w
theorem fa95_0 (a : Addr) (w : World) : (Instr.fieldAt 95 (.pointer (some a)) 0).run Tryz.prog w = .ok (.pointer (some (a.add 0))) w := fieldAt_run (k := 0) (off := 0) Tryz.underlying95 rfl Tryz.sizeOf2 (by decide) rfl a w
theorem fa95_1 (a : Addr) (w : World) : (Instr.fieldAt 95 (.pointer (some a)) 1).run Tryz.prog w = .ok (.pointer (some (a.add 1))) w := fieldAt_run (k := 1) (off := 1) Tryz.underlying95 rfl Tryz.sizeOf2 (by decide) rfl a w
theorem fa95_2 (a : Addr) (w : World) : (Instr.fieldAt 95 (.pointer (some a)) 2).run Tryz.prog w = .ok (.pointer (some (a.add 2))) w := fieldAt_run (k := 2) (off := 2) Tryz.underlying95 rfl Tryz.sizeOf93 (by decide) rfl a w
theorem fa125_0 (a : Addr) (w : World) : (Instr.fieldAt 125 (.pointer (some a)) 0).run Tryz.prog w = .ok (.pointer (some (a.add 0))) w := fieldAt_run (k := 0) (off := 0) Tryz.underlying125 rfl Tryz.sizeOf2 (by decide) rfl a w
theorem fa125_1 (a : Addr) (w : World) : (Instr.fieldAt 125 (.pointer (some a)) 1).run Tryz.prog w = .ok (.pointer (some (a.add 1))) w := fieldAt_run (k := 1) (off := 1) Tryz.underlying125 rfl Tryz.sizeOf42 (by decide) rfl a w
theorem fa137_0 (a : Addr) (w : World) : (Instr.fieldAt 137 (.pointer (some a)) 0).run Tryz.prog w = .ok (.pointer (some (a.add 0))) w := fieldAt_run (k := 0) (off := 0) Tryz.underlying137 rfl Tryz.sizeOf2 (by decide) rfl a w
theorem fa137_1 (a : Addr) (w : World) : (Instr.fieldAt 137 (.pointer (some a)) 1).run Tryz.prog w = .ok (.pointer (some (a.add 1))) w := fieldAt_run (k := 1) (off := 1) Tryz.underlying137 rfl Tryz.sizeOf82 (by decide) rfl a w
theorem fa141_0 (a : Addr) (w : World) : (Instr.fieldAt 141 (.pointer (some a)) 0).run Tryz.prog w = .ok (.pointer (some (a.add 0))) w := fieldAt_run (k := 0) (off := 0) Tryz.underlying141 rfl Tryz.sizeOf2 (by decide) rfl a w
theorem fa141_1 (a : Addr) (w : World) : (Instr.fieldAt 141 (.pointer (some a)) 1).run Tryz.prog w = .ok (.pointer (some (a.add 1))) w := fieldAt_run (k := 1) (off := 1) Tryz.underlying141 rfl Tryz.sizeOf2 (by decide) rfl a w
theorem fa141_2 (a : Addr) (w : World) : (Instr.fieldAt 141 (.pointer (some a)) 2).run Tryz.prog w = .ok (.pointer (some (a.add 2))) w := fieldAt_run (k := 2) (off := 2) Tryz.underlying141 rfl Tryz.sizeOf139 (by decide) rfl a w
theorem fa158_0 (a : Addr) (w : World) : (Instr.fieldAt 158 (.pointer (some a)) 0).run Tryz.prog w = .ok (.pointer (some (a.add 0))) w := fieldAt_run (k := 0) (off := 0) Tryz.underlying158 rfl Tryz.sizeOf2 (by decide) rfl a w
theorem fa158_1 (a : Addr) (w : World) : (Instr.fieldAt 158 (.pointer (some a)) 1).run Tryz.prog w = .ok (.pointer (some (a.add 1))) w := fieldAt_run (k := 1) (off := 1) Tryz.underlying158 rfl Tryz.sizeOf42 (by decide) rfl a w
theorem fa164_0 (a : Addr) (w : World) : (Instr.fieldAt 164 (.pointer (some a)) 0).run Tryz.prog w = .ok (.pointer (some (a.add 0))) w := fieldAt_run (k := 0) (off := 0) Tryz.underlying164 rfl Tryz.sizeOf2 (by decide) rfl a w
theorem fa164_1 (a : Addr) (w : World) : (Instr.fieldAt 164 (.pointer (some a)) 1).run Tryz.prog w = .ok (.pointer (some (a.add 1))) w := fieldAt_run (k := 1) (off := 1) Tryz.underlying164 rfl Tryz.sizeOf42 (by decide) rfl a w
theorem fa165_0 (a : Addr) (w : World) : (Instr.fieldAt 165 (.pointer (some a)) 0).run Tryz.prog w = .ok (.pointer (some (a.add 0))) w := fieldAt_run (k := 0) (off := 0) Tryz.underlying165 rfl Tryz.sizeOf2 (by decide) rfl a w
theorem fa165_1 (a : Addr) (w : World) : (Instr.fieldAt 165 (.pointer (some a)) 1).run Tryz.prog w = .ok (.pointer (some (a.add 1))) w := fieldAt_run (k := 1) (off := 1) Tryz.underlying165 rfl Tryz.sizeOf42 (by decide) rfl a w
theorem fa204_0 (a : Addr) (w : World) : (Instr.fieldAt 204 (.pointer (some a)) 0).run Tryz.prog w = .ok (.pointer (some (a.add 0))) w := fieldAt_run (k := 0) (off := 0) Tryz.underlying204 rfl Tryz.sizeOf42 (by decide) rfl a w
theorem fa204_1 (a : Addr) (w : World) : (Instr.fieldAt 204 (.pointer (some a)) 1).run Tryz.prog w = .ok (.pointer (some (a.add 1))) w := fieldAt_run (k := 1) (off := 1) Tryz.underlying204 rfl Tryz.sizeOf3 (by decide) rfl a w
theorem fa207_0 (a : Addr) (w : World) : (Instr.fieldAt 207 (.pointer (some a)) 0).run Tryz.prog w = .ok (.pointer (some (a.add 0))) w := fieldAt_run (k := 0) (off := 0) Tryz.underlying207 rfl Tryz.sizeOf74 (by decide) rfl a w
theorem fa207_1 (a : Addr) (w : World) : (Instr.fieldAt 207 (.pointer (some a)) 1).run Tryz.prog w = .ok (.pointer (some (a.add 1))) w := fieldAt_run (k := 1) (off := 1) Tryz.underlying207 rfl Tryz.sizeOf103 (by decide) rfl a w
theorem fa207_2 (a : Addr) (w : World) : (Instr.fieldAt 207 (.pointer (some a)) 2).run Tryz.prog w = .ok (.pointer (some (a.add 2))) w := fieldAt_run (k := 2) (off := 2) Tryz.underlying207 rfl Tryz.sizeOf3 (by decide) rfl a w
theorem fa207_3 (a : Addr) (w : World) : (Instr.fieldAt 207 (.pointer (some a)) 3).run Tryz.prog w = .ok (.pointer (some (a.add 3))) w := fieldAt_run (k := 3) (off := 3) Tryz.underlying207 rfl Tryz.sizeOf82 (by decide) rfl a w
theorem fa207_4 (a : Addr) (w : World) : (Instr.fieldAt 207 (.pointer (some a)) 4).run Tryz.prog w = .ok (.pointer (some (a.add 4))) w := fieldAt_run (k := 4) (off := 4) Tryz.underlying207 rfl Tryz.sizeOf2 (by decide) rfl a w
theorem fa249_0 (a : Addr) (w : World) : (Instr.fieldAt 249 (.pointer (some a)) 0).run Tryz.prog w = .ok (.pointer (some (a.add 0))) w := fieldAt_run (k := 0) (off := 0) Tryz.underlying249 rfl Tryz.sizeOf2 (by decide) rfl a w
theorem fa249_1 (a : Addr) (w : World) : (Instr.fieldAt 249 (.pointer (some a)) 1).run Tryz.prog w = .ok (.pointer (some (a.add 1))) w := fieldAt_run (k := 1) (off := 1) Tryz.underlying249 rfl Tryz.sizeOf2 (by decide) rfl a w
theorem fa249_2 (a : Addr) (w : World) : (Instr.fieldAt 249 (.pointer (some a)) 2).run Tryz.prog w = .ok (.pointer (some (a.add 2))) w := fieldAt_run (k := 2) (off := 2) Tryz.underlying249 rfl Tryz.sizeOf2 (by decide) rfl a w
theorem fa252_0 (a : Addr) (w : World) : (Instr.fieldAt 252 (.pointer (some a)) 0).run Tryz.prog w = .ok (.pointer (some (a.add 0))) w := fieldAt_run (k := 0) (off := 0) Tryz.underlying252 rfl Tryz.sizeOf42 (by decide) rfl a w
theorem fa252_1 (a : Addr) (w : World) : (Instr.fieldAt 252 (.pointer (some a)) 1).run Tryz.prog w = .ok (.pointer (some (a.add 1))) w := fieldAt_run (k := 1) (off := 1) Tryz.underlying252 rfl Tryz.sizeOf2 (by decide) rfl a w
theorem fa257_0 (a : Addr) (w : World) : (Instr.fieldAt 257 (.pointer (some a)) 0).run Tryz.prog w = .ok (.pointer (some (a.add 0))) w := fieldAt_run (k := 0) (off := 0) Tryz.underlying257 rfl Tryz.sizeOf33 (by decide) rfl a w
theorem fa257_1 (a : Addr) (w : World) : (Instr.fieldAt 257 (.pointer (some a)) 1).run Tryz.prog w = .ok (.pointer (some (a.add 2))) w := fieldAt_run (k := 1) (off := 2) Tryz.underlying257 rfl Tryz.sizeOf2 (by decide) rfl a w
theorem fa257_2 (a : Addr) (w : World) : (Instr.fieldAt 257 (.pointer (some a)) 2).run Tryz.prog w = .ok (.pointer (some (a.add 3))) w := fieldAt_run (k := 2) (off := 3) Tryz.underlying257 rfl Tryz.sizeOf255 (by decide) rfl a w
theorem fa261_0 (a : Addr) (w : World) : (Instr.fieldAt 261 (.pointer (some a)) 0).run Tryz.prog w = .ok (.pointer (some (a.add 0))) w := fieldAt_run (k := 0) (off := 0) Tryz.underlying261 rfl Tryz.sizeOf2 (by decide) rfl a w
theorem fa261_1 (a : Addr) (w : World) : (Instr.fieldAt 261 (.pointer (some a)) 1).run Tryz.prog w = .ok (.pointer (some (a.add 1))) w := fieldAt_run (k := 1) (off := 1) Tryz.underlying261 rfl Tryz.sizeOf42 (by decide) rfl a w
theorem fa294_2 (a : Addr) (w : World) : (Instr.fieldAt 294 (.pointer (some a)) 2).run Tryz.prog w = .ok (.pointer (some (a.add 2))) w := fieldAt_run (k := 2) (off := 2) Tryz.underlying294 rfl Tryz.sizeOf292 (by decide) rfl a w
end Go.Proofs.YtmgdjaiaekhkgaaGreat
