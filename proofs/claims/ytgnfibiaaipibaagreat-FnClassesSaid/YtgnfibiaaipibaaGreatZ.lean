import Derived.Test.YtgnfibiaaipibaaGreatQ
import Derived.Test.YtgnfibiaaipibaaGreatProg
namespace Go.Proofs.YtgnfibiaaipibaaGreat
open Go.RowKit
theorem fa27_0 (a:Addr) (w:World):(Instr.fieldAt 27 (.pointer (some a)) 0).run Tryz.prog w= .ok (.pointer (some (a.add 0))) w:=vD (k:=0) (off:=0) Tryz.underlying27 rfl Tryz.sizeOf2 (by decide) rfl a w
theorem fa27_1 (a:Addr) (w:World):(Instr.fieldAt 27 (.pointer (some a)) 1).run Tryz.prog w= .ok (.pointer (some (a.add 1))) w:=vD (k:=1) (off:=1) Tryz.underlying27 rfl Tryz.sizeOf25 (by decide) rfl a w
theorem dA (a:Addr) (w:World):(Instr.fieldAt 31 (.pointer (some a)) 0).run Tryz.prog w= .ok (.pointer (some (a.add 0))) w:=vD (k:=0) (off:=0) Tryz.underlying31 rfl Tryz.sizeOf2 (by decide) rfl a w
theorem kR (a:Addr) (w:World):(Instr.fieldAt 31 (.pointer (some a)) 1).run Tryz.prog w= .ok (.pointer (some (a.add 1))) w:=vD (k:=1) (off:=1) Tryz.underlying31 rfl Tryz.sizeOf29 (by decide) rfl a w
theorem kD (a:Addr) (w:World):(Instr.fieldAt 35 (.pointer (some a)) 0).run Tryz.prog w= .ok (.pointer (some (a.add 0))) w:=vD (k:=0) (off:=0) Tryz.underlying35 rfl Tryz.sizeOf2 (by decide) rfl a w
theorem bU (a:Addr) (w:World):(Instr.fieldAt 35 (.pointer (some a)) 1).run Tryz.prog w= .ok (.pointer (some (a.add 1))) w:=vD (k:=1) (off:=1) Tryz.underlying35 rfl Tryz.sizeOf33 (by decide) rfl a w
theorem cB (a:Addr) (w:World):(Instr.fieldAt 51 (.pointer (some a)) 0).run Tryz.prog w= .ok (.pointer (some (a.add 0))) w:=vD (k:=0) (off:=0) Tryz.underlying51 rfl Tryz.sizeOf2 (by decide) rfl a w
theorem vW (a:Addr) (w:World):(Instr.fieldAt 51 (.pointer (some a)) 1).run Tryz.prog w= .ok (.pointer (some (a.add 1))) w:=vD (k:=1) (off:=1) Tryz.underlying51 rfl Tryz.sizeOf45 (by decide) rfl a w
theorem fa107_0 (a:Addr) (w:World):(Instr.fieldAt 107 (.pointer (some a)) 0).run Tryz.prog w= .ok (.pointer (some (a.add 0))) w:=vD (k:=0) (off:=0) Tryz.underlying107 rfl Tryz.sizeOf22 (by decide) rfl a w
theorem fa107_1 (a:Addr) (w:World):(Instr.fieldAt 107 (.pointer (some a)) 1).run Tryz.prog w= .ok (.pointer (some (a.add 1))) w:=vD (k:=1) (off:=1) Tryz.underlying107 rfl Tryz.sizeOf3 (by decide) rfl a w
theorem fa107_2 (a:Addr) (w:World):(Instr.fieldAt 107 (.pointer (some a)) 2).run Tryz.prog w= .ok (.pointer (some (a.add 2))) w:=vD (k:=2) (off:=2) Tryz.underlying107 rfl Tryz.sizeOf105 (by decide) rfl a w
theorem fa116_0 (a:Addr) (w:World):(Instr.fieldAt 116 (.pointer (some a)) 0).run Tryz.prog w= .ok (.pointer (some (a.add 0))) w:=vD (k:=0) (off:=0) Tryz.underlying116 rfl Tryz.sizeOf2 (by decide) rfl a w
theorem fa116_1 (a:Addr) (w:World):(Instr.fieldAt 116 (.pointer (some a)) 1).run Tryz.prog w= .ok (.pointer (some (a.add 1))) w:=vD (k:=1) (off:=1) Tryz.underlying116 rfl Tryz.sizeOf2 (by decide) rfl a w
theorem fa116_2 (a:Addr) (w:World):(Instr.fieldAt 116 (.pointer (some a)) 2).run Tryz.prog w= .ok (.pointer (some (a.add 2))) w:=vD (k:=2) (off:=2) Tryz.underlying116 rfl Tryz.sizeOf114 (by decide) rfl a w
theorem fR (a:Addr) (w:World):(Instr.fieldAt 119 (.pointer (some a)) 0).run Tryz.prog w= .ok (.pointer (some (a.add 0))) w:=vD (k:=0) (off:=0) Tryz.underlying119 rfl Tryz.sizeOf2 (by decide) rfl a w
theorem zV (a:Addr) (w:World):(Instr.fieldAt 119 (.pointer (some a)) 1).run Tryz.prog w= .ok (.pointer (some (a.add 1))) w:=vD (k:=1) (off:=1) Tryz.underlying119 rfl Tryz.sizeOf25 (by decide) rfl a w
theorem fa150_0 (a:Addr) (w:World):(Instr.fieldAt 150 (.pointer (some a)) 0).run Tryz.prog w= .ok (.pointer (some (a.add 0))) w:=vD (k:=0) (off:=0) Tryz.underlying150 rfl Tryz.sizeOf25 (by decide) rfl a w
theorem fa150_1 (a:Addr) (w:World):(Instr.fieldAt 150 (.pointer (some a)) 1).run Tryz.prog w= .ok (.pointer (some (a.add 1))) w:=vD (k:=1) (off:=1) Tryz.underlying150 rfl Tryz.sizeOf3 (by decide) rfl a w
theorem fa159_0 (a:Addr) (w:World):(Instr.fieldAt 159 (.pointer (some a)) 0).run Tryz.prog w= .ok (.pointer (some (a.add 0))) w:=vD (k:=0) (off:=0) Tryz.underlying159 rfl Tryz.sizeOf71 (by decide) rfl a w
theorem fa159_1 (a:Addr) (w:World):(Instr.fieldAt 159 (.pointer (some a)) 1).run Tryz.prog w= .ok (.pointer (some (a.add 1))) w:=vD (k:=1) (off:=1) Tryz.underlying159 rfl Tryz.sizeOf94 (by decide) rfl a w
theorem fa159_2 (a:Addr) (w:World):(Instr.fieldAt 159 (.pointer (some a)) 2).run Tryz.prog w= .ok (.pointer (some (a.add 2))) w:=vD (k:=2) (off:=2) Tryz.underlying159 rfl Tryz.sizeOf3 (by decide) rfl a w
theorem fa159_3 (a:Addr) (w:World):(Instr.fieldAt 159 (.pointer (some a)) 3).run Tryz.prog w= .ok (.pointer (some (a.add 3))) w:=vD (k:=3) (off:=3) Tryz.underlying159 rfl Tryz.sizeOf45 (by decide) rfl a w
theorem fa159_4 (a:Addr) (w:World):(Instr.fieldAt 159 (.pointer (some a)) 4).run Tryz.prog w= .ok (.pointer (some (a.add 4))) w:=vD (k:=4) (off:=4) Tryz.underlying159 rfl Tryz.sizeOf2 (by decide) rfl a w
theorem fa163_0 (a:Addr) (w:World):(Instr.fieldAt 163 (.pointer (some a)) 0).run Tryz.prog w= .ok (.pointer (some (a.add 0))) w:=vD (k:=0) (off:=0) Tryz.underlying163 rfl Tryz.sizeOf25 (by decide) rfl a w
theorem fa163_1 (a:Addr) (w:World):(Instr.fieldAt 163 (.pointer (some a)) 1).run Tryz.prog w= .ok (.pointer (some (a.add 1))) w:=vD (k:=1) (off:=1) Tryz.underlying163 rfl Tryz.sizeOf2 (by decide) rfl a w
theorem fa181_0 (a:Addr) (w:World):(Instr.fieldAt 181 (.pointer (some a)) 0).run Tryz.prog w= .ok (.pointer (some (a.add 0))) w:=vD (k:=0) (off:=0) Tryz.underlying181 rfl Tryz.sizeOf2 (by decide) rfl a w
theorem fa181_1 (a:Addr) (w:World):(Instr.fieldAt 181 (.pointer (some a)) 1).run Tryz.prog w= .ok (.pointer (some (a.add 1))) w:=vD (k:=1) (off:=1) Tryz.underlying181 rfl Tryz.sizeOf25 (by decide) rfl a w
theorem fa186_0 (a:Addr) (w:World):(Instr.fieldAt 186 (.pointer (some a)) 0).run Tryz.prog w= .ok (.pointer (some (a.add 0))) w:=vD (k:=0) (off:=0) Tryz.underlying186 rfl Tryz.sizeOf2 (by decide) rfl a w
theorem fa186_1 (a:Addr) (w:World):(Instr.fieldAt 186 (.pointer (some a)) 1).run Tryz.prog w= .ok (.pointer (some (a.add 1))) w:=vD (k:=1) (off:=1) Tryz.underlying186 rfl Tryz.sizeOf2 (by decide) rfl a w
theorem fa186_2 (a:Addr) (w:World):(Instr.fieldAt 186 (.pointer (some a)) 2).run Tryz.prog w= .ok (.pointer (some (a.add 2))) w:=vD (k:=2) (off:=2) Tryz.underlying186 rfl Tryz.sizeOf2 (by decide) rfl a w
theorem fa199_0 (a:Addr) (w:World):(Instr.fieldAt 199 (.pointer (some a)) 0).run Tryz.prog w= .ok (.pointer (some (a.add 0))) w:=vD (k:=0) (off:=0) Tryz.underlying199 rfl Tryz.sizeOf31 (by decide) rfl a w
theorem fa199_1 (a:Addr) (w:World):(Instr.fieldAt 199 (.pointer (some a)) 1).run Tryz.prog w= .ok (.pointer (some (a.add 2))) w:=vD (k:=1) (off:=2) Tryz.underlying199 rfl Tryz.sizeOf2 (by decide) rfl a w
theorem fa199_2 (a:Addr) (w:World):(Instr.fieldAt 199 (.pointer (some a)) 2).run Tryz.prog w= .ok (.pointer (some (a.add 3))) w:=vD (k:=2) (off:=3) Tryz.underlying199 rfl Tryz.sizeOf197 (by decide) rfl a w
end Go.Proofs.YtgnfibiaaipibaaGreat
