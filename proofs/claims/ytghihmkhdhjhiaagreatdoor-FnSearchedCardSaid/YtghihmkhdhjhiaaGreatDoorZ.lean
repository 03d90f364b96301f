import Derived.Test.YtghihmkhdhjhiaaGreatDoorQ
import Derived.Test.YtghihmkhdhjhiaaGreatDoorProg
namespace Go.Proofs.YtghihmkhdhjhiaaGreatDoor
open Go.RowKit
theorem lD (a:Addr) (w:World):(Instr.fieldAt 26 (.pointer (some a)) 0).run Tryz.prog w= .ok (.pointer (some (a.add 0))) w:=oZ (k:=0) (off:=0) Tryz.underlying26 rfl Tryz.sizeOf2 (by decide) rfl a w
theorem kW (a:Addr) (w:World):(Instr.fieldAt 26 (.pointer (some a)) 1).run Tryz.prog w= .ok (.pointer (some (a.add 1))) w:=oZ (k:=1) (off:=1) Tryz.underlying26 rfl Tryz.sizeOf24 (by decide) rfl a w
theorem fH (a:Addr) (w:World):(Instr.fieldAt 29 (.pointer (some a)) 0).run Tryz.prog w= .ok (.pointer (some (a.add 0))) w:=oZ (k:=0) (off:=0) Tryz.underlying29 rfl Tryz.sizeOf2 (by decide) rfl a w
theorem aD (a:Addr) (w:World):(Instr.fieldAt 29 (.pointer (some a)) 1).run Tryz.prog w= .ok (.pointer (some (a.add 1))) w:=oZ (k:=1) (off:=1) Tryz.underlying29 rfl Tryz.sizeOf27 (by decide) rfl a w
theorem mM (a:Addr) (w:World):(Instr.fieldAt 57 (.pointer (some a)) 0).run Tryz.prog w= .ok (.pointer (some (a.add 0))) w:=oZ (k:=0) (off:=0) Tryz.underlying57 rfl Tryz.sizeOf2 (by decide) rfl a w
theorem bJ (a:Addr) (w:World):(Instr.fieldAt 57 (.pointer (some a)) 1).run Tryz.prog w= .ok (.pointer (some (a.add 1))) w:=oZ (k:=1) (off:=1) Tryz.underlying57 rfl Tryz.sizeOf55 (by decide) rfl a w
theorem mP (a:Addr) (w:World):(Instr.fieldAt 60 (.pointer (some a)) 0).run Tryz.prog w= .ok (.pointer (some (a.add 0))) w:=oZ (k:=0) (off:=0) Tryz.underlying60 rfl Tryz.sizeOf2 (by decide) rfl a w
theorem dD (a:Addr) (w:World):(Instr.fieldAt 60 (.pointer (some a)) 1).run Tryz.prog w= .ok (.pointer (some (a.add 1))) w:=oZ (k:=1) (off:=1) Tryz.underlying60 rfl Tryz.sizeOf32 (by decide) rfl a w
theorem xMx (a:Addr) (w:World):(Instr.fieldAt 66 (.pointer (some a)) 0).run Tryz.prog w= .ok (.pointer (some (a.add 0))) w:=oZ (k:=0) (off:=0) Tryz.underlying66 rfl Tryz.sizeOf26 (by decide) rfl a w
theorem xMz (a:Addr) (w:World):(Instr.fieldAt 66 (.pointer (some a)) 1).run Tryz.prog w= .ok (.pointer (some (a.add 2))) w:=oZ (k:=1) (off:=2) Tryz.underlying66 rfl Tryz.sizeOf29 (by decide) rfl a w
theorem xNs (a:Addr) (w:World):(Instr.fieldAt 66 (.pointer (some a)) 2).run Tryz.prog w= .ok (.pointer (some (a.add 4))) w:=oZ (k:=2) (off:=4) Tryz.underlying66 rfl Tryz.sizeOf2 (by decide) rfl a w
theorem xBr (a:Addr) (w:World):(Instr.fieldAt 66 (.pointer (some a)) 3).run Tryz.prog w= .ok (.pointer (some (a.add 5))) w:=oZ (k:=3) (off:=5) Tryz.underlying66 rfl Tryz.sizeOf2 (by decide) rfl a w
theorem nV (a:Addr) (w:World):(Instr.fieldAt 66 (.pointer (some a)) 4).run Tryz.prog w= .ok (.pointer (some (a.add 6))) w:=oZ (k:=4) (off:=6) Tryz.underlying66 rfl Tryz.sizeOf35 (by decide) rfl a w
theorem xAx (a:Addr) (w:World):(Instr.fieldAt 66 (.pointer (some a)) 5).run Tryz.prog w= .ok (.pointer (some (a.add 7))) w:=oZ (k:=5) (off:=7) Tryz.underlying66 rfl Tryz.sizeOf32 (by decide) rfl a w
theorem sI (a:Addr) (w:World):(Instr.fieldAt 66 (.pointer (some a)) 6).run Tryz.prog w= .ok (.pointer (some (a.add 8))) w:=oZ (k:=6) (off:=8) Tryz.underlying66 rfl Tryz.sizeOf2 (by decide) rfl a w
theorem xNk (a:Addr) (w:World):(Instr.fieldAt 73 (.pointer (some a)) 0).run Tryz.prog w= .ok (.pointer (some (a.add 0))) w:=oZ (k:=0) (off:=0) Tryz.underlying73 rfl Tryz.sizeOf53 (by decide) rfl a w
theorem xOl (a:Addr) (w:World):(Instr.fieldAt 73 (.pointer (some a)) 1).run Tryz.prog w= .ok (.pointer (some (a.add 1))) w:=oZ (k:=1) (off:=1) Tryz.underlying73 rfl Tryz.sizeOf54 (by decide) rfl a w
theorem xNm (a:Addr) (w:World):(Instr.fieldAt 73 (.pointer (some a)) 2).run Tryz.prog w= .ok (.pointer (some (a.add 2))) w:=oZ (k:=2) (off:=2) Tryz.underlying73 rfl Tryz.sizeOf2 (by decide) rfl a w
theorem wF (a:Addr) (w:World):(Instr.fieldAt 73 (.pointer (some a)) 3).run Tryz.prog w= .ok (.pointer (some (a.add 3))) w:=oZ (k:=3) (off:=3) Tryz.underlying73 rfl Tryz.sizeOf2 (by decide) rfl a w
theorem nJ (a:Addr) (w:World):(Instr.fieldAt 73 (.pointer (some a)) 4).run Tryz.prog w= .ok (.pointer (some (a.add 4))) w:=oZ (k:=4) (off:=4) Tryz.underlying73 rfl Tryz.sizeOf35 (by decide) rfl a w
theorem xEo (a:Addr) (w:World):(Instr.fieldAt 73 (.pointer (some a)) 5).run Tryz.prog w= .ok (.pointer (some (a.add 5))) w:=oZ (k:=5) (off:=5) Tryz.underlying73 rfl Tryz.sizeOf32 (by decide) rfl a w
theorem xJw (a:Addr) (w:World):(Instr.fieldAt 73 (.pointer (some a)) 6).run Tryz.prog w= .ok (.pointer (some (a.add 6))) w:=oZ (k:=6) (off:=6) Tryz.underlying73 rfl Tryz.sizeOf4 (by decide) rfl a w
theorem xBe (a:Addr) (w:World):(Instr.fieldAt 77 (.pointer (some a)) 0).run Tryz.prog w= .ok (.pointer (some (a.add 0))) w:=oZ (k:=0) (off:=0) Tryz.underlying77 rfl Tryz.sizeOf2 (by decide) rfl a w
theorem iS (a:Addr) (w:World):(Instr.fieldAt 77 (.pointer (some a)) 1).run Tryz.prog w= .ok (.pointer (some (a.add 1))) w:=oZ (k:=1) (off:=1) Tryz.underlying77 rfl Tryz.sizeOf2 (by decide) rfl a w
theorem nO (a:Addr) (w:World):(Instr.fieldAt 77 (.pointer (some a)) 2).run Tryz.prog w= .ok (.pointer (some (a.add 2))) w:=oZ (k:=2) (off:=2) Tryz.underlying77 rfl Tryz.sizeOf2 (by decide) rfl a w
theorem xBn (a:Addr) (w:World):(Instr.fieldAt 77 (.pointer (some a)) 3).run Tryz.prog w= .ok (.pointer (some (a.add 3))) w:=oZ (k:=3) (off:=3) Tryz.underlying77 rfl Tryz.sizeOf2 (by decide) rfl a w
theorem xOg (a:Addr) (w:World):(Instr.fieldAt 85 (.pointer (some a)) 0).run Tryz.prog w= .ok (.pointer (some (a.add 0))) w:=oZ (k:=0) (off:=0) Tryz.underlying85 rfl Tryz.sizeOf26 (by decide) rfl a w
theorem xJv (a:Addr) (w:World):(Instr.fieldAt 85 (.pointer (some a)) 1).run Tryz.prog w= .ok (.pointer (some (a.add 2))) w:=oZ (k:=1) (off:=2) Tryz.underlying85 rfl Tryz.sizeOf29 (by decide) rfl a w
theorem mC (a:Addr) (w:World):(Instr.fieldAt 85 (.pointer (some a)) 2).run Tryz.prog w= .ok (.pointer (some (a.add 4))) w:=oZ (k:=2) (off:=4) Tryz.underlying85 rfl Tryz.sizeOf82 (by decide) rfl a w
theorem wZ (a:Addr) (w:World):(Instr.fieldAt 85 (.pointer (some a)) 3).run Tryz.prog w= .ok (.pointer (some (a.add 5))) w:=oZ (k:=3) (off:=5) Tryz.underlying85 rfl Tryz.sizeOf83 (by decide) rfl a w
theorem xBw (a:Addr) (w:World):(Instr.fieldAt 106 (.pointer (some a)) 0).run Tryz.prog w= .ok (.pointer (some (a.add 0))) w:=oZ (k:=0) (off:=0) Tryz.underlying106 rfl Tryz.sizeOf22 (by decide) rfl a w
theorem rV (a:Addr) (w:World):(Instr.fieldAt 106 (.pointer (some a)) 1).run Tryz.prog w= .ok (.pointer (some (a.add 1))) w:=oZ (k:=1) (off:=1) Tryz.underlying106 rfl Tryz.sizeOf3 (by decide) rfl a w
theorem xAz (a:Addr) (w:World):(Instr.fieldAt 106 (.pointer (some a)) 2).run Tryz.prog w= .ok (.pointer (some (a.add 2))) w:=oZ (k:=2) (off:=2) Tryz.underlying106 rfl Tryz.sizeOf104 (by decide) rfl a w
theorem xBx (a:Addr) (w:World):(Instr.fieldAt 117 (.pointer (some a)) 0).run Tryz.prog w= .ok (.pointer (some (a.add 0))) w:=oZ (k:=0) (off:=0) Tryz.underlying117 rfl Tryz.sizeOf53 (by decide) rfl a w
theorem uE (a:Addr) (w:World):(Instr.fieldAt 117 (.pointer (some a)) 1).run Tryz.prog w= .ok (.pointer (some (a.add 1))) w:=oZ (k:=1) (off:=1) Tryz.underlying117 rfl Tryz.sizeOf54 (by decide) rfl a w
theorem xCa (a:Addr) (w:World):(Instr.fieldAt 117 (.pointer (some a)) 2).run Tryz.prog w= .ok (.pointer (some (a.add 2))) w:=oZ (k:=2) (off:=2) Tryz.underlying117 rfl Tryz.sizeOf3 (by decide) rfl a w
theorem rZ (a:Addr) (w:World):(Instr.fieldAt 117 (.pointer (some a)) 3).run Tryz.prog w= .ok (.pointer (some (a.add 3))) w:=oZ (k:=3) (off:=3) Tryz.underlying117 rfl Tryz.sizeOf55 (by decide) rfl a w
theorem xFs (a:Addr) (w:World):(Instr.fieldAt 117 (.pointer (some a)) 4).run Tryz.prog w= .ok (.pointer (some (a.add 4))) w:=oZ (k:=4) (off:=4) Tryz.underlying117 rfl Tryz.sizeOf2 (by decide) rfl a w
theorem rQ (a:Addr) (w:World):(Instr.fieldAt 152 (.pointer (some a)) 0).run Tryz.prog w= .ok (.pointer (some (a.add 0))) w:=oZ (k:=0) (off:=0) Tryz.underlying152 rfl Tryz.sizeOf2 (by decide) rfl a w
theorem uB (a:Addr) (w:World):(Instr.fieldAt 152 (.pointer (some a)) 1).run Tryz.prog w= .ok (.pointer (some (a.add 1))) w:=oZ (k:=1) (off:=1) Tryz.underlying152 rfl Tryz.sizeOf2 (by decide) rfl a w
theorem uC (a:Addr) (w:World):(Instr.fieldAt 152 (.pointer (some a)) 2).run Tryz.prog w= .ok (.pointer (some (a.add 2))) w:=oZ (k:=2) (off:=2) Tryz.underlying152 rfl Tryz.sizeOf2 (by decide) rfl a w
theorem xGr (a:Addr) (w:World):(Instr.fieldAt 160 (.pointer (some a)) 0).run Tryz.prog w= .ok (.pointer (some (a.add 0))) w:=oZ (k:=0) (off:=0) Tryz.underlying160 rfl Tryz.sizeOf2 (by decide) rfl a w
theorem xMm (a:Addr) (w:World):(Instr.fieldAt 160 (.pointer (some a)) 1).run Tryz.prog w= .ok (.pointer (some (a.add 1))) w:=oZ (k:=1) (off:=1) Tryz.underlying160 rfl Tryz.sizeOf2 (by decide) rfl a w
end Go.Proofs.YtghihmkhdhjhiaaGreatDoor
