import Derived.Test.YtlommebgedmjdaaGreatDoorQ
import Derived.Test.YtlommebgedmjdaaGreatDoorProg
namespace Go.Proofs.YtlommebgedmjdaaGreatDoor
open Go.RowKit
theorem xUn (a:Addr) (w:World):(Instr.fieldAt 26 (.pointer (some a)) 0).run Tryz.prog w= .ok (.pointer (some (a.add 0))) w:=qK (k:=0) (off:=0) Tryz.underlying26 rfl Tryz.sizeOf2 (by decide) rfl a w
theorem xZz (a:Addr) (w:World):(Instr.fieldAt 26 (.pointer (some a)) 1).run Tryz.prog w= .ok (.pointer (some (a.add 1))) w:=qK (k:=1) (off:=1) Tryz.underlying26 rfl Tryz.sizeOf24 (by decide) rfl a w
theorem xYd (a:Addr) (w:World):(Instr.fieldAt 30 (.pointer (some a)) 0).run Tryz.prog w= .ok (.pointer (some (a.add 0))) w:=qK (k:=0) (off:=0) Tryz.underlying30 rfl Tryz.sizeOf28 (by decide) rfl a w
theorem xZi (a:Addr) (w:World):(Instr.fieldAt 43 (.pointer (some a)) 0).run Tryz.prog w= .ok (.pointer (some (a.add 0))) w:=qK (k:=0) (off:=0) Tryz.underlying43 rfl Tryz.sizeOf2 (by decide) rfl a w
theorem xZj (a:Addr) (w:World):(Instr.fieldAt 43 (.pointer (some a)) 1).run Tryz.prog w= .ok (.pointer (some (a.add 1))) w:=qK (k:=1) (off:=1) Tryz.underlying43 rfl Tryz.sizeOf41 (by decide) rfl a w
theorem oAf (a:Addr) (w:World):(Instr.fieldAt 72 (.pointer (some a)) 0).run Tryz.prog w= .ok (.pointer (some (a.add 0))) w:=qK (k:=0) (off:=0) Tryz.underlying72 rfl Tryz.sizeOf2 (by decide) rfl a w
theorem xZu (a:Addr) (w:World):(Instr.fieldAt 72 (.pointer (some a)) 1).run Tryz.prog w= .ok (.pointer (some (a.add 1))) w:=qK (k:=1) (off:=1) Tryz.underlying72 rfl Tryz.sizeOf2 (by decide) rfl a w
theorem xXy (a:Addr) (w:World):(Instr.fieldAt 72 (.pointer (some a)) 2).run Tryz.prog w= .ok (.pointer (some (a.add 2))) w:=qK (k:=2) (off:=2) Tryz.underlying72 rfl Tryz.sizeOf70 (by decide) rfl a w
theorem xWp (a:Addr) (w:World):(Instr.fieldAt 108 (.pointer (some a)) 0).run Tryz.prog w= .ok (.pointer (some (a.add 0))) w:=qK (k:=0) (off:=0) Tryz.underlying108 rfl Tryz.sizeOf2 (by decide) rfl a w
theorem xVi (a:Addr) (w:World):(Instr.fieldAt 108 (.pointer (some a)) 1).run Tryz.prog w= .ok (.pointer (some (a.add 1))) w:=qK (k:=1) (off:=1) Tryz.underlying108 rfl Tryz.sizeOf57 (by decide) rfl a w
theorem xVu (a:Addr) (w:World):(Instr.fieldAt 113 (.pointer (some a)) 0).run Tryz.prog w= .ok (.pointer (some (a.add 0))) w:=qK (k:=0) (off:=0) Tryz.underlying113 rfl Tryz.sizeOf22 (by decide) rfl a w
theorem xVd (a:Addr) (w:World):(Instr.fieldAt 113 (.pointer (some a)) 1).run Tryz.prog w= .ok (.pointer (some (a.add 1))) w:=qK (k:=1) (off:=1) Tryz.underlying113 rfl Tryz.sizeOf3 (by decide) rfl a w
theorem xVv (a:Addr) (w:World):(Instr.fieldAt 113 (.pointer (some a)) 2).run Tryz.prog w= .ok (.pointer (some (a.add 2))) w:=qK (k:=2) (off:=2) Tryz.underlying113 rfl Tryz.sizeOf111 (by decide) rfl a w
theorem xWa (a:Addr) (w:World):(Instr.fieldAt 120 (.pointer (some a)) 0).run Tryz.prog w= .ok (.pointer (some (a.add 0))) w:=qK (k:=0) (off:=0) Tryz.underlying120 rfl Tryz.sizeOf2 (by decide) rfl a w
theorem xOg (a:Addr) (w:World):(Instr.fieldAt 120 (.pointer (some a)) 1).run Tryz.prog w= .ok (.pointer (some (a.add 1))) w:=qK (k:=1) (off:=1) Tryz.underlying120 rfl Tryz.sizeOf36 (by decide) rfl a w
theorem xVm (a:Addr) (w:World):(Instr.fieldAt 134 (.pointer (some a)) 0).run Tryz.prog w= .ok (.pointer (some (a.add 0))) w:=qK (k:=0) (off:=0) Tryz.underlying134 rfl Tryz.sizeOf2 (by decide) rfl a w
theorem xVq (a:Addr) (w:World):(Instr.fieldAt 134 (.pointer (some a)) 1).run Tryz.prog w= .ok (.pointer (some (a.add 1))) w:=qK (k:=1) (off:=1) Tryz.underlying134 rfl Tryz.sizeOf36 (by decide) rfl a w
theorem xVy (a:Addr) (w:World):(Instr.fieldAt 155 (.pointer (some a)) 0).run Tryz.prog w= .ok (.pointer (some (a.add 0))) w:=qK (k:=0) (off:=0) Tryz.underlying155 rfl Tryz.sizeOf66 (by decide) rfl a w
theorem xWk (a:Addr) (w:World):(Instr.fieldAt 155 (.pointer (some a)) 1).run Tryz.prog w= .ok (.pointer (some (a.add 1))) w:=qK (k:=1) (off:=1) Tryz.underlying155 rfl Tryz.sizeOf87 (by decide) rfl a w
theorem xVs (a:Addr) (w:World):(Instr.fieldAt 155 (.pointer (some a)) 2).run Tryz.prog w= .ok (.pointer (some (a.add 2))) w:=qK (k:=2) (off:=2) Tryz.underlying155 rfl Tryz.sizeOf3 (by decide) rfl a w
theorem xVk (a:Addr) (w:World):(Instr.fieldAt 155 (.pointer (some a)) 3).run Tryz.prog w= .ok (.pointer (some (a.add 3))) w:=qK (k:=3) (off:=3) Tryz.underlying155 rfl Tryz.sizeOf57 (by decide) rfl a w
theorem xXf (a:Addr) (w:World):(Instr.fieldAt 155 (.pointer (some a)) 4).run Tryz.prog w= .ok (.pointer (some (a.add 4))) w:=qK (k:=4) (off:=4) Tryz.underlying155 rfl Tryz.sizeOf2 (by decide) rfl a w
theorem xNy (a:Addr) (w:World):(Instr.fieldAt 212 (.pointer (some a)) 0).run Tryz.prog w= .ok (.pointer (some (a.add 0))) w:=qK (k:=0) (off:=0) Tryz.underlying212 rfl Tryz.sizeOf26 (by decide) rfl a w
theorem xWz (a:Addr) (w:World):(Instr.fieldAt 212 (.pointer (some a)) 1).run Tryz.prog w= .ok (.pointer (some (a.add 2))) w:=qK (k:=1) (off:=2) Tryz.underlying212 rfl Tryz.sizeOf2 (by decide) rfl a w
theorem xIu (a:Addr) (w:World):(Instr.fieldAt 212 (.pointer (some a)) 2).run Tryz.prog w= .ok (.pointer (some (a.add 3))) w:=qK (k:=2) (off:=3) Tryz.underlying212 rfl Tryz.sizeOf210 (by decide) rfl a w
theorem mO:type_of% @Tryz.sizeOf120:=@Tryz.sizeOf120
theorem pP:type_of% @Tryz.sizeOf70:=@Tryz.sizeOf70
theorem nD:type_of% @Tryz.underlying210:=@Tryz.underlying210
theorem rE:type_of% @Tryz.underlying36:=@Tryz.underlying36
theorem lO:type_of% @Tryz.underlying70:=@Tryz.underlying70
end Go.Proofs.YtlommebgedmjdaaGreatDoor
