import Derived.Test.YticojbhjloeckaaGreatQ
import Derived.Test.YticojbhjloeckaaGreatProg
namespace Go.Proofs.YticojbhjloeckaaGreat
open Go.RowKit
theorem fa35_0 (a:Addr) (w:World):(Instr.fieldAt 35 (.pointer (some a)) 0).run Tryz.prog w= .ok (.pointer (some (a.add 0))) w:=vE (k:=0) (off:=0) Tryz.underlying35 rfl Tryz.sizeOf2 (by decide) rfl a w
theorem fa35_1 (a:Addr) (w:World):(Instr.fieldAt 35 (.pointer (some a)) 1).run Tryz.prog w= .ok (.pointer (some (a.add 1))) w:=vE (k:=1) (off:=1) Tryz.underlying35 rfl Tryz.sizeOf33 (by decide) rfl a w
theorem zY (a:Addr) (w:World):(Instr.fieldAt 39 (.pointer (some a)) 0).run Tryz.prog w= .ok (.pointer (some (a.add 0))) w:=vE (k:=0) (off:=0) Tryz.underlying39 rfl Tryz.sizeOf2 (by decide) rfl a w
theorem fa39_1 (a:Addr) (w:World):(Instr.fieldAt 39 (.pointer (some a)) 1).run Tryz.prog w= .ok (.pointer (some (a.add 1))) w:=vE (k:=1) (off:=1) Tryz.underlying39 rfl Tryz.sizeOf37 (by decide) rfl a w
theorem fa64_0 (a:Addr) (w:World):(Instr.fieldAt 64 (.pointer (some a)) 0).run Tryz.prog w= .ok (.pointer (some (a.add 0))) w:=vE (k:=0) (off:=0) Tryz.underlying64 rfl Tryz.sizeOf2 (by decide) rfl a w
theorem fa64_1 (a:Addr) (w:World):(Instr.fieldAt 64 (.pointer (some a)) 1).run Tryz.prog w= .ok (.pointer (some (a.add 1))) w:=vE (k:=1) (off:=1) Tryz.underlying64 rfl Tryz.sizeOf30 (by decide) rfl a w
theorem fa69_0 (a:Addr) (w:World):(Instr.fieldAt 69 (.pointer (some a)) 0).run Tryz.prog w= .ok (.pointer (some (a.add 0))) w:=vE (k:=0) (off:=0) Tryz.underlying69 rfl Tryz.sizeOf2 (by decide) rfl a w
theorem vX (a:Addr) (w:World):(Instr.fieldAt 69 (.pointer (some a)) 1).run Tryz.prog w= .ok (.pointer (some (a.add 1))) w:=vE (k:=1) (off:=1) Tryz.underlying69 rfl Tryz.sizeOf67 (by decide) rfl a w
theorem fa85_0 (a:Addr) (w:World):(Instr.fieldAt 85 (.pointer (some a)) 0).run Tryz.prog w= .ok (.pointer (some (a.add 0))) w:=vE (k:=0) (off:=0) Tryz.underlying85 rfl Tryz.sizeOf2 (by decide) rfl a w
theorem kV (a:Addr) (w:World):(Instr.fieldAt 85 (.pointer (some a)) 1).run Tryz.prog w= .ok (.pointer (some (a.add 1))) w:=vE (k:=1) (off:=1) Tryz.underlying85 rfl Tryz.sizeOf30 (by decide) rfl a w
theorem fa121_0 (a:Addr) (w:World):(Instr.fieldAt 121 (.pointer (some a)) 0).run Tryz.prog w= .ok (.pointer (some (a.add 0))) w:=vE (k:=0) (off:=0) Tryz.underlying121 rfl Tryz.sizeOf30 (by decide) rfl a w
theorem fa121_1 (a:Addr) (w:World):(Instr.fieldAt 121 (.pointer (some a)) 1).run Tryz.prog w= .ok (.pointer (some (a.add 1))) w:=vE (k:=1) (off:=1) Tryz.underlying121 rfl Tryz.sizeOf3 (by decide) rfl a w
theorem fa157_0 (a:Addr) (w:World):(Instr.fieldAt 157 (.pointer (some a)) 0).run Tryz.prog w= .ok (.pointer (some (a.add 0))) w:=vE (k:=0) (off:=0) Tryz.underlying157 rfl Tryz.sizeOf2 (by decide) rfl a w
theorem fa157_1 (a:Addr) (w:World):(Instr.fieldAt 157 (.pointer (some a)) 1).run Tryz.prog w= .ok (.pointer (some (a.add 1))) w:=vE (k:=1) (off:=1) Tryz.underlying157 rfl Tryz.sizeOf30 (by decide) rfl a w
theorem fa163_0 (a:Addr) (w:World):(Instr.fieldAt 163 (.pointer (some a)) 0).run Tryz.prog w= .ok (.pointer (some (a.add 0))) w:=vE (k:=0) (off:=0) Tryz.underlying163 rfl Tryz.sizeOf2 (by decide) rfl a w
theorem fa163_1 (a:Addr) (w:World):(Instr.fieldAt 163 (.pointer (some a)) 1).run Tryz.prog w= .ok (.pointer (some (a.add 1))) w:=vE (k:=1) (off:=1) Tryz.underlying163 rfl Tryz.sizeOf2 (by decide) rfl a w
theorem fa163_2 (a:Addr) (w:World):(Instr.fieldAt 163 (.pointer (some a)) 2).run Tryz.prog w= .ok (.pointer (some (a.add 2))) w:=vE (k:=2) (off:=2) Tryz.underlying163 rfl Tryz.sizeOf2 (by decide) rfl a w
theorem fa168_0 (a:Addr) (w:World):(Instr.fieldAt 168 (.pointer (some a)) 0).run Tryz.prog w= .ok (.pointer (some (a.add 0))) w:=vE (k:=0) (off:=0) Tryz.underlying168 rfl Tryz.sizeOf30 (by decide) rfl a w
theorem fa168_1 (a:Addr) (w:World):(Instr.fieldAt 168 (.pointer (some a)) 1).run Tryz.prog w= .ok (.pointer (some (a.add 1))) w:=vE (k:=1) (off:=1) Tryz.underlying168 rfl Tryz.sizeOf2 (by decide) rfl a w
theorem fa179_0 (a:Addr) (w:World):(Instr.fieldAt 179 (.pointer (some a)) 0).run Tryz.prog w= .ok (.pointer (some (a.add 0))) w:=vE (k:=0) (off:=0) Tryz.underlying179 rfl Tryz.sizeOf51 (by decide) rfl a w
theorem fa179_1 (a:Addr) (w:World):(Instr.fieldAt 179 (.pointer (some a)) 1).run Tryz.prog w= .ok (.pointer (some (a.add 1))) w:=vE (k:=1) (off:=1) Tryz.underlying179 rfl Tryz.sizeOf52 (by decide) rfl a w
theorem fa179_2 (a:Addr) (w:World):(Instr.fieldAt 179 (.pointer (some a)) 2).run Tryz.prog w= .ok (.pointer (some (a.add 2))) w:=vE (k:=2) (off:=2) Tryz.underlying179 rfl Tryz.sizeOf3 (by decide) rfl a w
theorem fa179_3 (a:Addr) (w:World):(Instr.fieldAt 179 (.pointer (some a)) 3).run Tryz.prog w= .ok (.pointer (some (a.add 3))) w:=vE (k:=3) (off:=3) Tryz.underlying179 rfl Tryz.sizeOf67 (by decide) rfl a w
theorem fa179_4 (a:Addr) (w:World):(Instr.fieldAt 179 (.pointer (some a)) 4).run Tryz.prog w= .ok (.pointer (some (a.add 4))) w:=vE (k:=4) (off:=4) Tryz.underlying179 rfl Tryz.sizeOf2 (by decide) rfl a w
theorem fa190_0 (a:Addr) (w:World):(Instr.fieldAt 190 (.pointer (some a)) 0).run Tryz.prog w= .ok (.pointer (some (a.add 0))) w:=vE (k:=0) (off:=0) Tryz.underlying190 rfl Tryz.sizeOf35 (by decide) rfl a w
theorem fa190_1 (a:Addr) (w:World):(Instr.fieldAt 190 (.pointer (some a)) 1).run Tryz.prog w= .ok (.pointer (some (a.add 2))) w:=vE (k:=1) (off:=2) Tryz.underlying190 rfl Tryz.sizeOf2 (by decide) rfl a w
theorem fa190_2 (a:Addr) (w:World):(Instr.fieldAt 190 (.pointer (some a)) 2).run Tryz.prog w= .ok (.pointer (some (a.add 3))) w:=vE (k:=2) (off:=3) Tryz.underlying190 rfl Tryz.sizeOf188 (by decide) rfl a w
theorem fa205_2 (a:Addr) (w:World):(Instr.fieldAt 205 (.pointer (some a)) 2).run Tryz.prog w= .ok (.pointer (some (a.add 2))) w:=vE (k:=2) (off:=2) Tryz.underlying205 rfl Tryz.sizeOf203 (by decide) rfl a w
end Go.Proofs.YticojbhjloeckaaGreat
