import Derived.Test.YtncganhbpbehaaaGreatQ
import Derived.Test.YtncganhbpbehaaaGreatProg
namespace Go.Proofs.YtncganhbpbehaaaGreat
open Go.RowKit
theorem iD (a:Addr) (w:World):(Instr.fieldAt 26 (.pointer (some a)) 0).run Tryz.prog w= .ok (.pointer (some (a.add 0))) w:=qS (k:=0) (off:=0) Tryz.underlying26 rfl Tryz.sizeOf2 (by decide) rfl a w
theorem kG (a:Addr) (w:World):(Instr.fieldAt 26 (.pointer (some a)) 1).run Tryz.prog w= .ok (.pointer (some (a.add 1))) w:=qS (k:=1) (off:=1) Tryz.underlying26 rfl Tryz.sizeOf24 (by decide) rfl a w
theorem eE (a:Addr) (w:World):(Instr.fieldAt 29 (.pointer (some a)) 0).run Tryz.prog w= .ok (.pointer (some (a.add 0))) w:=qS (k:=0) (off:=0) Tryz.underlying29 rfl Tryz.sizeOf2 (by decide) rfl a w
theorem zT (a:Addr) (w:World):(Instr.fieldAt 29 (.pointer (some a)) 1).run Tryz.prog w= .ok (.pointer (some (a.add 1))) w:=qS (k:=1) (off:=1) Tryz.underlying29 rfl Tryz.sizeOf27 (by decide) rfl a w
theorem nW (a:Addr) (w:World):(Instr.fieldAt 35 (.pointer (some a)) 0).run Tryz.prog w= .ok (.pointer (some (a.add 0))) w:=qS (k:=0) (off:=0) Tryz.underlying35 rfl Tryz.sizeOf2 (by decide) rfl a w
theorem pV (a:Addr) (w:World):(Instr.fieldAt 35 (.pointer (some a)) 1).run Tryz.prog w= .ok (.pointer (some (a.add 1))) w:=qS (k:=1) (off:=1) Tryz.underlying35 rfl Tryz.sizeOf2 (by decide) rfl a w
theorem mU (a:Addr) (w:World):(Instr.fieldAt 66 (.pointer (some a)) 0).run Tryz.prog w= .ok (.pointer (some (a.add 0))) w:=qS (k:=0) (off:=0) Tryz.underlying66 rfl Tryz.sizeOf2 (by decide) rfl a w
theorem bG (a:Addr) (w:World):(Instr.fieldAt 66 (.pointer (some a)) 1).run Tryz.prog w= .ok (.pointer (some (a.add 1))) w:=qS (k:=1) (off:=1) Tryz.underlying66 rfl Tryz.sizeOf38 (by decide) rfl a w
theorem lX (a:Addr) (w:World):(Instr.fieldAt 69 (.pointer (some a)) 0).run Tryz.prog w= .ok (.pointer (some (a.add 0))) w:=qS (k:=0) (off:=0) Tryz.underlying69 rfl Tryz.sizeOf2 (by decide) rfl a w
theorem bM (a:Addr) (w:World):(Instr.fieldAt 69 (.pointer (some a)) 1).run Tryz.prog w= .ok (.pointer (some (a.add 1))) w:=qS (k:=1) (off:=1) Tryz.underlying69 rfl Tryz.sizeOf41 (by decide) rfl a w
theorem xFy (a:Addr) (w:World):(Instr.fieldAt 89 (.pointer (some a)) 0).run Tryz.prog w= .ok (.pointer (some (a.add 0))) w:=qS (k:=0) (off:=0) Tryz.underlying89 rfl Tryz.sizeOf63 (by decide) rfl a w
theorem xDi (a:Addr) (w:World):(Instr.fieldAt 89 (.pointer (some a)) 1).run Tryz.prog w= .ok (.pointer (some (a.add 1))) w:=qS (k:=1) (off:=1) Tryz.underlying89 rfl Tryz.sizeOf64 (by decide) rfl a w
theorem xFs (a:Addr) (w:World):(Instr.fieldAt 89 (.pointer (some a)) 2).run Tryz.prog w= .ok (.pointer (some (a.add 2))) w:=qS (k:=2) (off:=2) Tryz.underlying89 rfl Tryz.sizeOf3 (by decide) rfl a w
theorem yZ (a:Addr) (w:World):(Instr.fieldAt 89 (.pointer (some a)) 3).run Tryz.prog w= .ok (.pointer (some (a.add 3))) w:=qS (k:=3) (off:=3) Tryz.underlying89 rfl Tryz.sizeOf38 (by decide) rfl a w
theorem xGq (a:Addr) (w:World):(Instr.fieldAt 89 (.pointer (some a)) 4).run Tryz.prog w= .ok (.pointer (some (a.add 4))) w:=qS (k:=4) (off:=4) Tryz.underlying89 rfl Tryz.sizeOf2 (by decide) rfl a w
theorem xOw (a:Addr) (w:World):(Instr.fieldAt 95 (.pointer (some a)) 0).run Tryz.prog w= .ok (.pointer (some (a.add 0))) w:=qS (k:=0) (off:=0) Tryz.underlying95 rfl Tryz.sizeOf2 (by decide) rfl a w
theorem xOn (a:Addr) (w:World):(Instr.fieldAt 95 (.pointer (some a)) 1).run Tryz.prog w= .ok (.pointer (some (a.add 1))) w:=qS (k:=1) (off:=1) Tryz.underlying95 rfl Tryz.sizeOf2 (by decide) rfl a w
theorem xOp (a:Addr) (w:World):(Instr.fieldAt 95 (.pointer (some a)) 2).run Tryz.prog w= .ok (.pointer (some (a.add 2))) w:=qS (k:=2) (off:=2) Tryz.underlying95 rfl Tryz.sizeOf2 (by decide) rfl a w
theorem xCi (a:Addr) (w:World):(Instr.fieldAt 117 (.pointer (some a)) 0).run Tryz.prog w= .ok (.pointer (some (a.add 0))) w:=qS (k:=0) (off:=0) Tryz.underlying117 rfl Tryz.sizeOf22 (by decide) rfl a w
theorem tH (a:Addr) (w:World):(Instr.fieldAt 117 (.pointer (some a)) 1).run Tryz.prog w= .ok (.pointer (some (a.add 1))) w:=qS (k:=1) (off:=1) Tryz.underlying117 rfl Tryz.sizeOf3 (by decide) rfl a w
theorem xCj (a:Addr) (w:World):(Instr.fieldAt 117 (.pointer (some a)) 2).run Tryz.prog w= .ok (.pointer (some (a.add 2))) w:=qS (k:=2) (off:=2) Tryz.underlying117 rfl Tryz.sizeOf115 (by decide) rfl a w
theorem xNj (a:Addr) (w:World):(Instr.fieldAt 129 (.pointer (some a)) 0).run Tryz.prog w= .ok (.pointer (some (a.add 0))) w:=qS (k:=0) (off:=0) Tryz.underlying129 rfl Tryz.sizeOf26 (by decide) rfl a w
theorem xNi (a:Addr) (w:World):(Instr.fieldAt 129 (.pointer (some a)) 1).run Tryz.prog w= .ok (.pointer (some (a.add 2))) w:=qS (k:=1) (off:=2) Tryz.underlying129 rfl Tryz.sizeOf29 (by decide) rfl a w
theorem xMq (a:Addr) (w:World):(Instr.fieldAt 129 (.pointer (some a)) 2).run Tryz.prog w= .ok (.pointer (some (a.add 4))) w:=qS (k:=2) (off:=4) Tryz.underlying129 rfl Tryz.sizeOf2 (by decide) rfl a w
theorem wR (a:Addr) (w:World):(Instr.fieldAt 129 (.pointer (some a)) 3).run Tryz.prog w= .ok (.pointer (some (a.add 5))) w:=qS (k:=3) (off:=5) Tryz.underlying129 rfl Tryz.sizeOf2 (by decide) rfl a w
theorem mG (a:Addr) (w:World):(Instr.fieldAt 129 (.pointer (some a)) 4).run Tryz.prog w= .ok (.pointer (some (a.add 6))) w:=qS (k:=4) (off:=6) Tryz.underlying129 rfl Tryz.sizeOf91 (by decide) rfl a w
theorem wU (a:Addr) (w:World):(Instr.fieldAt 129 (.pointer (some a)) 5).run Tryz.prog w= .ok (.pointer (some (a.add 7))) w:=qS (k:=5) (off:=7) Tryz.underlying129 rfl Tryz.sizeOf41 (by decide) rfl a w
theorem mL (a:Addr) (w:World):(Instr.fieldAt 129 (.pointer (some a)) 6).run Tryz.prog w= .ok (.pointer (some (a.add 8))) w:=qS (k:=6) (off:=8) Tryz.underlying129 rfl Tryz.sizeOf2 (by decide) rfl a w
theorem xHj (a:Addr) (w:World):(Instr.fieldAt 141 (.pointer (some a)) 0).run Tryz.prog w= .ok (.pointer (some (a.add 0))) w:=qS (k:=0) (off:=0) Tryz.underlying141 rfl Tryz.sizeOf2 (by decide) rfl a w
theorem xGv (a:Addr) (w:World):(Instr.fieldAt 141 (.pointer (some a)) 1).run Tryz.prog w= .ok (.pointer (some (a.add 1))) w:=qS (k:=1) (off:=1) Tryz.underlying141 rfl Tryz.sizeOf41 (by decide) rfl a w
theorem xHv (a:Addr) (w:World):(Instr.fieldAt 145 (.pointer (some a)) 0).run Tryz.prog w= .ok (.pointer (some (a.add 0))) w:=qS (k:=0) (off:=0) Tryz.underlying145 rfl Tryz.sizeOf26 (by decide) rfl a w
theorem xNm (a:Addr) (w:World):(Instr.fieldAt 145 (.pointer (some a)) 1).run Tryz.prog w= .ok (.pointer (some (a.add 2))) w:=qS (k:=1) (off:=2) Tryz.underlying145 rfl Tryz.sizeOf2 (by decide) rfl a w
theorem xCa (a:Addr) (w:World):(Instr.fieldAt 145 (.pointer (some a)) 2).run Tryz.prog w= .ok (.pointer (some (a.add 3))) w:=qS (k:=2) (off:=3) Tryz.underlying145 rfl Tryz.sizeOf143 (by decide) rfl a w
theorem xNb (a:Addr) (w:World):(Instr.fieldAt 148 (.pointer (some a)) 0).run Tryz.prog w= .ok (.pointer (some (a.add 0))) w:=qS (k:=0) (off:=0) Tryz.underlying148 rfl Tryz.sizeOf63 (by decide) rfl a w
theorem xMd (a:Addr) (w:World):(Instr.fieldAt 148 (.pointer (some a)) 1).run Tryz.prog w= .ok (.pointer (some (a.add 1))) w:=qS (k:=1) (off:=1) Tryz.underlying148 rfl Tryz.sizeOf64 (by decide) rfl a w
theorem xMr (a:Addr) (w:World):(Instr.fieldAt 148 (.pointer (some a)) 2).run Tryz.prog w= .ok (.pointer (some (a.add 2))) w:=qS (k:=2) (off:=2) Tryz.underlying148 rfl Tryz.sizeOf2 (by decide) rfl a w
theorem xBz (a:Addr) (w:World):(Instr.fieldAt 148 (.pointer (some a)) 3).run Tryz.prog w= .ok (.pointer (some (a.add 3))) w:=qS (k:=3) (off:=3) Tryz.underlying148 rfl Tryz.sizeOf2 (by decide) rfl a w
theorem rH (a:Addr) (w:World):(Instr.fieldAt 148 (.pointer (some a)) 4).run Tryz.prog w= .ok (.pointer (some (a.add 4))) w:=qS (k:=4) (off:=4) Tryz.underlying148 rfl Tryz.sizeOf91 (by decide) rfl a w
theorem xHe (a:Addr) (w:World):(Instr.fieldAt 148 (.pointer (some a)) 5).run Tryz.prog w= .ok (.pointer (some (a.add 5))) w:=qS (k:=5) (off:=5) Tryz.underlying148 rfl Tryz.sizeOf41 (by decide) rfl a w
theorem xHn (a:Addr) (w:World):(Instr.fieldAt 148 (.pointer (some a)) 6).run Tryz.prog w= .ok (.pointer (some (a.add 6))) w:=qS (k:=6) (off:=6) Tryz.underlying148 rfl Tryz.sizeOf4 (by decide) rfl a w
theorem xGx (a:Addr) (w:World):(Instr.fieldAt 173 (.pointer (some a)) 0).run Tryz.prog w= .ok (.pointer (some (a.add 0))) w:=qS (k:=0) (off:=0) Tryz.underlying173 rfl Tryz.sizeOf2 (by decide) rfl a w
theorem xHk (a:Addr) (w:World):(Instr.fieldAt 173 (.pointer (some a)) 1).run Tryz.prog w= .ok (.pointer (some (a.add 1))) w:=qS (k:=1) (off:=1) Tryz.underlying173 rfl Tryz.sizeOf2 (by decide) rfl a w
theorem xHr (a:Addr) (w:World):(Instr.fieldAt 173 (.pointer (some a)) 2).run Tryz.prog w= .ok (.pointer (some (a.add 2))) w:=qS (k:=2) (off:=2) Tryz.underlying173 rfl Tryz.sizeOf2 (by decide) rfl a w
end Go.Proofs.YtncganhbpbehaaaGreat
