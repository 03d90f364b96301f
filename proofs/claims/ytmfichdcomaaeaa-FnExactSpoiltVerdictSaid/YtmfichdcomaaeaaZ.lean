/-
  The addresses of the structs' fields. Printed by gen_z.py.
-/
import Derived.Test.YtmfichdcomaaeaaK
import Derived.Test.YtmfichdcomaaeaaProg
namespace Go.Proofs.Ytmfichdcomaaeaa
open Go.RowKit
theorem fa23_0 (a : Addr) (w : World) : (Instr.fieldAt 23 (.pointer (some a)) 0).run Try.prog w = .ok (.pointer (some (a.add 0))) w := fieldAt_run (k := 0) (off := 0) Try.underlying23 rfl Try.sizeOf2 (by decide) rfl a w
theorem fa23_1 (a : Addr) (w : World) : (Instr.fieldAt 23 (.pointer (some a)) 1).run Try.prog w = .ok (.pointer (some (a.add 1))) w := fieldAt_run (k := 1) (off := 1) Try.underlying23 rfl Try.sizeOf2 (by decide) rfl a w
theorem fa23_2 (a : Addr) (w : World) : (Instr.fieldAt 23 (.pointer (some a)) 2).run Try.prog w = .ok (.pointer (some (a.add 2))) w := fieldAt_run (k := 2) (off := 2) Try.underlying23 rfl Try.sizeOf2 (by decide) rfl a w
theorem fa25_0 (a : Addr) (w : World) : (Instr.fieldAt 25 (.pointer (some a)) 0).run Try.prog w = .ok (.pointer (some (a.add 0))) w := fieldAt_run (k := 0) (off := 0) Try.underlying25 rfl Try.sizeOf2 (by decide) rfl a w
theorem fa25_1 (a : Addr) (w : World) : (Instr.fieldAt 25 (.pointer (some a)) 1).run Try.prog w = .ok (.pointer (some (a.add 1))) w := fieldAt_run (k := 1) (off := 1) Try.underlying25 rfl Try.sizeOf2 (by decide) rfl a w
theorem fa25_2 (a : Addr) (w : World) : (Instr.fieldAt 25 (.pointer (some a)) 2).run Try.prog w = .ok (.pointer (some (a.add 2))) w := fieldAt_run (k := 2) (off := 2) Try.underlying25 rfl Try.sizeOf2 (by decide) rfl a w
theorem fa29_0 (a : Addr) (w : World) : (Instr.fieldAt 29 (.pointer (some a)) 0).run Try.prog w = .ok (.pointer (some (a.add 0))) w := fieldAt_run (k := 0) (off := 0) Try.underlying29 rfl Try.sizeOf2 (by decide) rfl a w
theorem fa29_1 (a : Addr) (w : World) : (Instr.fieldAt 29 (.pointer (some a)) 1).run Try.prog w = .ok (.pointer (some (a.add 1))) w := fieldAt_run (k := 1) (off := 1) Try.underlying29 rfl Try.sizeOf2 (by decide) rfl a w
theorem fa29_2 (a : Addr) (w : World) : (Instr.fieldAt 29 (.pointer (some a)) 2).run Try.prog w = .ok (.pointer (some (a.add 2))) w := fieldAt_run (k := 2) (off := 2) Try.underlying29 rfl Try.sizeOf2 (by decide) rfl a w
theorem fa29_3 (a : Addr) (w : World) : (Instr.fieldAt 29 (.pointer (some a)) 3).run Try.prog w = .ok (.pointer (some (a.add 3))) w := fieldAt_run (k := 3) (off := 3) Try.underlying29 rfl Try.sizeOf2 (by decide) rfl a w
theorem fa31_0 (a : Addr) (w : World) : (Instr.fieldAt 31 (.pointer (some a)) 0).run Try.prog w = .ok (.pointer (some (a.add 0))) w := fieldAt_run (k := 0) (off := 0) Try.underlying31 rfl Try.sizeOf2 (by decide) rfl a w
theorem fa31_1 (a : Addr) (w : World) : (Instr.fieldAt 31 (.pointer (some a)) 1).run Try.prog w = .ok (.pointer (some (a.add 1))) w := fieldAt_run (k := 1) (off := 1) Try.underlying31 rfl Try.sizeOf2 (by decide) rfl a w
theorem fa31_2 (a : Addr) (w : World) : (Instr.fieldAt 31 (.pointer (some a)) 2).run Try.prog w = .ok (.pointer (some (a.add 2))) w := fieldAt_run (k := 2) (off := 2) Try.underlying31 rfl Try.sizeOf2 (by decide) rfl a w
theorem fa31_3 (a : Addr) (w : World) : (Instr.fieldAt 31 (.pointer (some a)) 3).run Try.prog w = .ok (.pointer (some (a.add 3))) w := fieldAt_run (k := 3) (off := 3) Try.underlying31 rfl Try.sizeOf2 (by decide) rfl a w
theorem fa36_0 (a : Addr) (w : World) : (Instr.fieldAt 36 (.pointer (some a)) 0).run Try.prog w = .ok (.pointer (some (a.add 0))) w := fieldAt_run (k := 0) (off := 0) Try.underlying36 rfl Try.sizeOf2 (by decide) rfl a w
theorem fa36_1 (a : Addr) (w : World) : (Instr.fieldAt 36 (.pointer (some a)) 1).run Try.prog w = .ok (.pointer (some (a.add 1))) w := fieldAt_run (k := 1) (off := 1) Try.underlying36 rfl Try.sizeOf34 (by decide) rfl a w
theorem fa44_0 (a : Addr) (w : World) : (Instr.fieldAt 44 (.pointer (some a)) 0).run Try.prog w = .ok (.pointer (some (a.add 0))) w := fieldAt_run (k := 0) (off := 0) Try.underlying44 rfl Try.sizeOf42 (by decide) rfl a w
theorem fa49_0 (a : Addr) (w : World) : (Instr.fieldAt 49 (.pointer (some a)) 0).run Try.prog w = .ok (.pointer (some (a.add 0))) w := fieldAt_run (k := 0) (off := 0) Try.underlying49 rfl Try.sizeOf47 (by decide) rfl a w
theorem fa54_0 (a : Addr) (w : World) : (Instr.fieldAt 54 (.pointer (some a)) 0).run Try.prog w = .ok (.pointer (some (a.add 0))) w := fieldAt_run (k := 0) (off := 0) Try.underlying54 rfl Try.sizeOf2 (by decide) rfl a w
theorem fa54_1 (a : Addr) (w : World) : (Instr.fieldAt 54 (.pointer (some a)) 1).run Try.prog w = .ok (.pointer (some (a.add 1))) w := fieldAt_run (k := 1) (off := 1) Try.underlying54 rfl Try.sizeOf52 (by decide) rfl a w
theorem fa58_0 (a : Addr) (w : World) : (Instr.fieldAt 58 (.pointer (some a)) 0).run Try.prog w = .ok (.pointer (some (a.add 0))) w := fieldAt_run (k := 0) (off := 0) Try.underlying58 rfl Try.sizeOf2 (by decide) rfl a w
theorem fa58_1 (a : Addr) (w : World) : (Instr.fieldAt 58 (.pointer (some a)) 1).run Try.prog w = .ok (.pointer (some (a.add 1))) w := fieldAt_run (k := 1) (off := 1) Try.underlying58 rfl Try.sizeOf52 (by decide) rfl a w
theorem fa68_0 (a : Addr) (w : World) : (Instr.fieldAt 68 (.pointer (some a)) 0).run Try.prog w = .ok (.pointer (some (a.add 0))) w := fieldAt_run (k := 0) (off := 0) Try.underlying68 rfl Try.sizeOf2 (by decide) rfl a w
theorem fa68_1 (a : Addr) (w : World) : (Instr.fieldAt 68 (.pointer (some a)) 1).run Try.prog w = .ok (.pointer (some (a.add 1))) w := fieldAt_run (k := 1) (off := 1) Try.underlying68 rfl Try.sizeOf34 (by decide) rfl a w
theorem fa68_2 (a : Addr) (w : World) : (Instr.fieldAt 68 (.pointer (some a)) 2).run Try.prog w = .ok (.pointer (some (a.add 2))) w := fieldAt_run (k := 2) (off := 2) Try.underlying68 rfl Try.sizeOf65 (by decide) rfl a w
theorem fa68_3 (a : Addr) (w : World) : (Instr.fieldAt 68 (.pointer (some a)) 3).run Try.prog w = .ok (.pointer (some (a.add 3))) w := fieldAt_run (k := 3) (off := 3) Try.underlying68 rfl Try.sizeOf66 (by decide) rfl a w
theorem fa68_4 (a : Addr) (w : World) : (Instr.fieldAt 68 (.pointer (some a)) 4).run Try.prog w = .ok (.pointer (some (a.add 4))) w := fieldAt_run (k := 4) (off := 4) Try.underlying68 rfl Try.sizeOf34 (by decide) rfl a w
theorem fa73_0 (a : Addr) (w : World) : (Instr.fieldAt 73 (.pointer (some a)) 0).run Try.prog w = .ok (.pointer (some (a.add 0))) w := fieldAt_run (k := 0) (off := 0) Try.underlying73 rfl Try.sizeOf2 (by decide) rfl a w
theorem fa73_1 (a : Addr) (w : World) : (Instr.fieldAt 73 (.pointer (some a)) 1).run Try.prog w = .ok (.pointer (some (a.add 1))) w := fieldAt_run (k := 1) (off := 1) Try.underlying73 rfl Try.sizeOf34 (by decide) rfl a w
theorem fa73_2 (a : Addr) (w : World) : (Instr.fieldAt 73 (.pointer (some a)) 2).run Try.prog w = .ok (.pointer (some (a.add 2))) w := fieldAt_run (k := 2) (off := 2) Try.underlying73 rfl Try.sizeOf70 (by decide) rfl a w
theorem fa73_3 (a : Addr) (w : World) : (Instr.fieldAt 73 (.pointer (some a)) 3).run Try.prog w = .ok (.pointer (some (a.add 3))) w := fieldAt_run (k := 3) (off := 3) Try.underlying73 rfl Try.sizeOf71 (by decide) rfl a w
theorem fa73_4 (a : Addr) (w : World) : (Instr.fieldAt 73 (.pointer (some a)) 4).run Try.prog w = .ok (.pointer (some (a.add 4))) w := fieldAt_run (k := 4) (off := 4) Try.underlying73 rfl Try.sizeOf34 (by decide) rfl a w
theorem fa81_0 (a : Addr) (w : World) : (Instr.fieldAt 81 (.pointer (some a)) 0).run Try.prog w = .ok (.pointer (some (a.add 0))) w := fieldAt_run (k := 0) (off := 0) Try.underlying81 rfl Try.sizeOf2 (by decide) rfl a w
theorem fa81_1 (a : Addr) (w : World) : (Instr.fieldAt 81 (.pointer (some a)) 1).run Try.prog w = .ok (.pointer (some (a.add 1))) w := fieldAt_run (k := 1) (off := 1) Try.underlying81 rfl Try.sizeOf79 (by decide) rfl a w
theorem fa87_0 (a : Addr) (w : World) : (Instr.fieldAt 87 (.pointer (some a)) 0).run Try.prog w = .ok (.pointer (some (a.add 0))) w := fieldAt_run (k := 0) (off := 0) Try.underlying87 rfl Try.sizeOf2 (by decide) rfl a w
theorem fa87_1 (a : Addr) (w : World) : (Instr.fieldAt 87 (.pointer (some a)) 1).run Try.prog w = .ok (.pointer (some (a.add 1))) w := fieldAt_run (k := 1) (off := 1) Try.underlying87 rfl Try.sizeOf85 (by decide) rfl a w
theorem fa114_0 (a : Addr) (w : World) : (Instr.fieldAt 114 (.pointer (some a)) 0).run Try.prog w = .ok (.pointer (some (a.add 0))) w := fieldAt_run (k := 0) (off := 0) Try.underlying114 rfl Try.sizeOf2 (by decide) rfl a w
theorem fa114_1 (a : Addr) (w : World) : (Instr.fieldAt 114 (.pointer (some a)) 1).run Try.prog w = .ok (.pointer (some (a.add 1))) w := fieldAt_run (k := 1) (off := 1) Try.underlying114 rfl Try.sizeOf2 (by decide) rfl a w
theorem fa114_2 (a : Addr) (w : World) : (Instr.fieldAt 114 (.pointer (some a)) 2).run Try.prog w = .ok (.pointer (some (a.add 2))) w := fieldAt_run (k := 2) (off := 2) Try.underlying114 rfl Try.sizeOf112 (by decide) rfl a w
theorem fa133_0 (a : Addr) (w : World) : (Instr.fieldAt 133 (.pointer (some a)) 0).run Try.prog w = .ok (.pointer (some (a.add 0))) w := fieldAt_run (k := 0) (off := 0) Try.underlying133 rfl Try.sizeOf2 (by decide) rfl a w
theorem fa133_1 (a : Addr) (w : World) : (Instr.fieldAt 133 (.pointer (some a)) 1).run Try.prog w = .ok (.pointer (some (a.add 1))) w := fieldAt_run (k := 1) (off := 1) Try.underlying133 rfl Try.sizeOf2 (by decide) rfl a w
theorem fa133_2 (a : Addr) (w : World) : (Instr.fieldAt 133 (.pointer (some a)) 2).run Try.prog w = .ok (.pointer (some (a.add 2))) w := fieldAt_run (k := 2) (off := 2) Try.underlying133 rfl Try.sizeOf2 (by decide) rfl a w
theorem fa136_0 (a : Addr) (w : World) : (Instr.fieldAt 136 (.pointer (some a)) 0).run Try.prog w = .ok (.pointer (some (a.add 0))) w := fieldAt_run (k := 0) (off := 0) Try.underlying136 rfl Try.sizeOf2 (by decide) rfl a w
theorem fa136_1 (a : Addr) (w : World) : (Instr.fieldAt 136 (.pointer (some a)) 1).run Try.prog w = .ok (.pointer (some (a.add 1))) w := fieldAt_run (k := 1) (off := 1) Try.underlying136 rfl Try.sizeOf2 (by decide) rfl a w
theorem fa136_2 (a : Addr) (w : World) : (Instr.fieldAt 136 (.pointer (some a)) 2).run Try.prog w = .ok (.pointer (some (a.add 2))) w := fieldAt_run (k := 2) (off := 2) Try.underlying136 rfl Try.sizeOf2 (by decide) rfl a w
theorem fa168_0 (a : Addr) (w : World) : (Instr.fieldAt 168 (.pointer (some a)) 0).run Try.prog w = .ok (.pointer (some (a.add 0))) w := fieldAt_run (k := 0) (off := 0) Try.underlying168 rfl Try.sizeOf2 (by decide) rfl a w
theorem fa168_1 (a : Addr) (w : World) : (Instr.fieldAt 168 (.pointer (some a)) 1).run Try.prog w = .ok (.pointer (some (a.add 1))) w := fieldAt_run (k := 1) (off := 1) Try.underlying168 rfl Try.sizeOf2 (by decide) rfl a w
theorem fa168_2 (a : Addr) (w : World) : (Instr.fieldAt 168 (.pointer (some a)) 2).run Try.prog w = .ok (.pointer (some (a.add 2))) w := fieldAt_run (k := 2) (off := 2) Try.underlying168 rfl Try.sizeOf166 (by decide) rfl a w
theorem fa174_0 (a : Addr) (w : World) : (Instr.fieldAt 174 (.pointer (some a)) 0).run Try.prog w = .ok (.pointer (some (a.add 0))) w := fieldAt_run (k := 0) (off := 0) Try.underlying174 rfl Try.sizeOf2 (by decide) rfl a w
theorem fa174_1 (a : Addr) (w : World) : (Instr.fieldAt 174 (.pointer (some a)) 1).run Try.prog w = .ok (.pointer (some (a.add 1))) w := fieldAt_run (k := 1) (off := 1) Try.underlying174 rfl Try.sizeOf34 (by decide) rfl a w
theorem fa181_0 (a : Addr) (w : World) : (Instr.fieldAt 181 (.pointer (some a)) 0).run Try.prog w = .ok (.pointer (some (a.add 0))) w := fieldAt_run (k := 0) (off := 0) Try.underlying181 rfl Try.sizeOf34 (by decide) rfl a w
theorem fa181_1 (a : Addr) (w : World) : (Instr.fieldAt 181 (.pointer (some a)) 1).run Try.prog w = .ok (.pointer (some (a.add 1))) w := fieldAt_run (k := 1) (off := 1) Try.underlying181 rfl Try.sizeOf2 (by decide) rfl a w
theorem fa186_0 (a : Addr) (w : World) : (Instr.fieldAt 186 (.pointer (some a)) 0).run Try.prog w = .ok (.pointer (some (a.add 0))) w := fieldAt_run (k := 0) (off := 0) Try.underlying186 rfl Try.sizeOf2 (by decide) rfl a w
theorem fa186_1 (a : Addr) (w : World) : (Instr.fieldAt 186 (.pointer (some a)) 1).run Try.prog w = .ok (.pointer (some (a.add 1))) w := fieldAt_run (k := 1) (off := 1) Try.underlying186 rfl Try.sizeOf2 (by decide) rfl a w
theorem fa186_2 (a : Addr) (w : World) : (Instr.fieldAt 186 (.pointer (some a)) 2).run Try.prog w = .ok (.pointer (some (a.add 2))) w := fieldAt_run (k := 2) (off := 2) Try.underlying186 rfl Try.sizeOf2 (by decide) rfl a w
theorem fa188_0 (a : Addr) (w : World) : (Instr.fieldAt 188 (.pointer (some a)) 0).run Try.prog w = .ok (.pointer (some (a.add 0))) w := fieldAt_run (k := 0) (off := 0) Try.underlying188 rfl Try.sizeOf2 (by decide) rfl a w
theorem fa188_1 (a : Addr) (w : World) : (Instr.fieldAt 188 (.pointer (some a)) 1).run Try.prog w = .ok (.pointer (some (a.add 1))) w := fieldAt_run (k := 1) (off := 1) Try.underlying188 rfl Try.sizeOf2 (by decide) rfl a w
theorem fa188_2 (a : Addr) (w : World) : (Instr.fieldAt 188 (.pointer (some a)) 2).run Try.prog w = .ok (.pointer (some (a.add 2))) w := fieldAt_run (k := 2) (off := 2) Try.underlying188 rfl Try.sizeOf2 (by decide) rfl a w
theorem fa211_0 (a : Addr) (w : World) : (Instr.fieldAt 211 (.pointer (some a)) 0).run Try.prog w = .ok (.pointer (some (a.add 0))) w := fieldAt_run (k := 0) (off := 0) Try.underlying211 rfl Try.sizeOf2 (by decide) rfl a w
theorem fa211_1 (a : Addr) (w : World) : (Instr.fieldAt 211 (.pointer (some a)) 1).run Try.prog w = .ok (.pointer (some (a.add 1))) w := fieldAt_run (k := 1) (off := 1) Try.underlying211 rfl Try.sizeOf34 (by decide) rfl a w
theorem fa222_2 (a : Addr) (w : World) : (Instr.fieldAt 222 (.pointer (some a)) 2).run Try.prog w = .ok (.pointer (some (a.add 2))) w := fieldAt_run (k := 2) (off := 2) Try.underlying222 rfl Try.sizeOf220 (by decide) rfl a w
end Go.Proofs.Ytmfichdcomaaeaa
