import Derived.Test.YtfmnjkpddljdcaaGreatDoorQ
import Derived.Test.YtfmnjkpddljdcaaGreatDoorProg
namespace Go.Proofs.YtfmnjkpddljdcaaGreatDoor
open Go.RowKit
theorem sZ (a:Addr) (w:World):(Instr.fieldAt 26 (.pointer (some a)) 0).run Tryz.prog w= .ok (.pointer (some (a.add 0))) w:=qX (k:=0) (off:=0) Tryz.underlying26 rfl Tryz.sizeOf2 (by decide) rfl a w
theorem cD (a:Addr) (w:World):(Instr.fieldAt 26 (.pointer (some a)) 1).run Tryz.prog w= .ok (.pointer (some (a.add 1))) w:=qX (k:=1) (off:=1) Tryz.underlying26 rfl Tryz.sizeOf24 (by decide) rfl a w
theorem gP (a:Addr) (w:World):(Instr.fieldAt 29 (.pointer (some a)) 0).run Tryz.prog w= .ok (.pointer (some (a.add 0))) w:=qX (k:=0) (off:=0) Tryz.underlying29 rfl Tryz.sizeOf2 (by decide) rfl a w
theorem bU (a:Addr) (w:World):(Instr.fieldAt 29 (.pointer (some a)) 1).run Tryz.prog w= .ok (.pointer (some (a.add 1))) w:=qX (k:=1) (off:=1) Tryz.underlying29 rfl Tryz.sizeOf27 (by decide) rfl a w
theorem sR (a:Addr) (w:World):(Instr.fieldAt 45 (.pointer (some a)) 0).run Tryz.prog w= .ok (.pointer (some (a.add 0))) w:=qX (k:=0) (off:=0) Tryz.underlying45 rfl Tryz.sizeOf2 (by decide) rfl a w
theorem gR (a:Addr) (w:World):(Instr.fieldAt 45 (.pointer (some a)) 1).run Tryz.prog w= .ok (.pointer (some (a.add 1))) w:=qX (k:=1) (off:=1) Tryz.underlying45 rfl Tryz.sizeOf2 (by decide) rfl a w
theorem mN (a:Addr) (w:World):(Instr.fieldAt 45 (.pointer (some a)) 2).run Tryz.prog w= .ok (.pointer (some (a.add 2))) w:=qX (k:=2) (off:=2) Tryz.underlying45 rfl Tryz.sizeOf2 (by decide) rfl a w
theorem tV (a:Addr) (w:World):(Instr.fieldAt 45 (.pointer (some a)) 3).run Tryz.prog w= .ok (.pointer (some (a.add 3))) w:=qX (k:=3) (off:=3) Tryz.underlying45 rfl Tryz.sizeOf2 (by decide) rfl a w
theorem sS (a:Addr) (w:World):(Instr.fieldAt 65 (.pointer (some a)) 0).run Tryz.prog w= .ok (.pointer (some (a.add 0))) w:=qX (k:=0) (off:=0) Tryz.underlying65 rfl Tryz.sizeOf2 (by decide) rfl a w
theorem fG (a:Addr) (w:World):(Instr.fieldAt 65 (.pointer (some a)) 1).run Tryz.prog w= .ok (.pointer (some (a.add 1))) w:=qX (k:=1) (off:=1) Tryz.underlying65 rfl Tryz.sizeOf38 (by decide) rfl a w
theorem tD (a:Addr) (w:World):(Instr.fieldAt 68 (.pointer (some a)) 0).run Tryz.prog w= .ok (.pointer (some (a.add 0))) w:=qX (k:=0) (off:=0) Tryz.underlying68 rfl Tryz.sizeOf2 (by decide) rfl a w
theorem gD (a:Addr) (w:World):(Instr.fieldAt 68 (.pointer (some a)) 1).run Tryz.prog w= .ok (.pointer (some (a.add 1))) w:=qX (k:=1) (off:=1) Tryz.underlying68 rfl Tryz.sizeOf46 (by decide) rfl a w
theorem xUb (a:Addr) (w:World):(Instr.fieldAt 78 (.pointer (some a)) 0).run Tryz.prog w= .ok (.pointer (some (a.add 0))) w:=qX (k:=0) (off:=0) Tryz.underlying78 rfl Tryz.sizeOf26 (by decide) rfl a w
theorem xQt (a:Addr) (w:World):(Instr.fieldAt 78 (.pointer (some a)) 1).run Tryz.prog w= .ok (.pointer (some (a.add 2))) w:=qX (k:=1) (off:=2) Tryz.underlying78 rfl Tryz.sizeOf29 (by decide) rfl a w
theorem nO (a:Addr) (w:World):(Instr.fieldAt 78 (.pointer (some a)) 2).run Tryz.prog w= .ok (.pointer (some (a.add 4))) w:=qX (k:=2) (off:=4) Tryz.underlying78 rfl Tryz.sizeOf75 (by decide) rfl a w
theorem xDj (a:Addr) (w:World):(Instr.fieldAt 78 (.pointer (some a)) 3).run Tryz.prog w= .ok (.pointer (some (a.add 5))) w:=qX (k:=3) (off:=5) Tryz.underlying78 rfl Tryz.sizeOf76 (by decide) rfl a w
theorem xVg (a:Addr) (w:World):(Instr.fieldAt 86 (.pointer (some a)) 0).run Tryz.prog w= .ok (.pointer (some (a.add 0))) w:=qX (k:=0) (off:=0) Tryz.underlying86 rfl Tryz.sizeOf62 (by decide) rfl a w
theorem xOt (a:Addr) (w:World):(Instr.fieldAt 86 (.pointer (some a)) 1).run Tryz.prog w= .ok (.pointer (some (a.add 1))) w:=qX (k:=1) (off:=1) Tryz.underlying86 rfl Tryz.sizeOf63 (by decide) rfl a w
theorem rN (a:Addr) (w:World):(Instr.fieldAt 86 (.pointer (some a)) 2).run Tryz.prog w= .ok (.pointer (some (a.add 2))) w:=qX (k:=2) (off:=2) Tryz.underlying86 rfl Tryz.sizeOf84 (by decide) rfl a w
theorem xHm (a:Addr) (w:World):(Instr.fieldAt 88 (.pointer (some a)) 0).run Tryz.prog w= .ok (.pointer (some (a.add 0))) w:=qX (k:=0) (off:=0) Tryz.underlying88 rfl Tryz.sizeOf2 (by decide) rfl a w
theorem xPb (a:Addr) (w:World):(Instr.fieldAt 88 (.pointer (some a)) 1).run Tryz.prog w= .ok (.pointer (some (a.add 1))) w:=qX (k:=1) (off:=1) Tryz.underlying88 rfl Tryz.sizeOf2 (by decide) rfl a w
theorem wV (a:Addr) (w:World):(Instr.fieldAt 90 (.pointer (some a)) 0).run Tryz.prog w= .ok (.pointer (some (a.add 0))) w:=qX (k:=0) (off:=0) Tryz.underlying90 rfl Tryz.sizeOf38 (by decide) rfl a w
theorem xUf (a:Addr) (w:World):(Instr.fieldAt 90 (.pointer (some a)) 1).run Tryz.prog w= .ok (.pointer (some (a.add 1))) w:=qX (k:=1) (off:=1) Tryz.underlying90 rfl Tryz.sizeOf88 (by decide) rfl a w
theorem xGm (a:Addr) (w:World):(Instr.fieldAt 118 (.pointer (some a)) 0).run Tryz.prog w= .ok (.pointer (some (a.add 0))) w:=qX (k:=0) (off:=0) Tryz.underlying118 rfl Tryz.sizeOf22 (by decide) rfl a w
theorem yI (a:Addr) (w:World):(Instr.fieldAt 118 (.pointer (some a)) 1).run Tryz.prog w= .ok (.pointer (some (a.add 1))) w:=qX (k:=1) (off:=1) Tryz.underlying118 rfl Tryz.sizeOf3 (by decide) rfl a w
theorem xHj (a:Addr) (w:World):(Instr.fieldAt 118 (.pointer (some a)) 2).run Tryz.prog w= .ok (.pointer (some (a.add 2))) w:=qX (k:=2) (off:=2) Tryz.underlying118 rfl Tryz.sizeOf116 (by decide) rfl a w
theorem xSk (a:Addr) (w:World):(Instr.fieldAt 126 (.pointer (some a)) 0).run Tryz.prog w= .ok (.pointer (some (a.add 0))) w:=qX (k:=0) (off:=0) Tryz.underlying126 rfl Tryz.sizeOf62 (by decide) rfl a w
theorem xSd (a:Addr) (w:World):(Instr.fieldAt 126 (.pointer (some a)) 1).run Tryz.prog w= .ok (.pointer (some (a.add 1))) w:=qX (k:=1) (off:=1) Tryz.underlying126 rfl Tryz.sizeOf63 (by decide) rfl a w
theorem xRm (a:Addr) (w:World):(Instr.fieldAt 126 (.pointer (some a)) 2).run Tryz.prog w= .ok (.pointer (some (a.add 2))) w:=qX (k:=2) (off:=2) Tryz.underlying126 rfl Tryz.sizeOf2 (by decide) rfl a w
theorem xGl (a:Addr) (w:World):(Instr.fieldAt 126 (.pointer (some a)) 3).run Tryz.prog w= .ok (.pointer (some (a.add 3))) w:=qX (k:=3) (off:=3) Tryz.underlying126 rfl Tryz.sizeOf2 (by decide) rfl a w
theorem rD (a:Addr) (w:World):(Instr.fieldAt 126 (.pointer (some a)) 4).run Tryz.prog w= .ok (.pointer (some (a.add 4))) w:=qX (k:=4) (off:=4) Tryz.underlying126 rfl Tryz.sizeOf32 (by decide) rfl a w
theorem xLk (a:Addr) (w:World):(Instr.fieldAt 126 (.pointer (some a)) 5).run Tryz.prog w= .ok (.pointer (some (a.add 5))) w:=qX (k:=5) (off:=5) Tryz.underlying126 rfl Tryz.sizeOf46 (by decide) rfl a w
theorem xLm (a:Addr) (w:World):(Instr.fieldAt 126 (.pointer (some a)) 6).run Tryz.prog w= .ok (.pointer (some (a.add 6))) w:=qX (k:=6) (off:=6) Tryz.underlying126 rfl Tryz.sizeOf4 (by decide) rfl a w
theorem xMh (a:Addr) (w:World):(Instr.fieldAt 140 (.pointer (some a)) 0).run Tryz.prog w= .ok (.pointer (some (a.add 0))) w:=qX (k:=0) (off:=0) Tryz.underlying140 rfl Tryz.sizeOf2 (by decide) rfl a w
theorem xLu (a:Addr) (w:World):(Instr.fieldAt 140 (.pointer (some a)) 1).run Tryz.prog w= .ok (.pointer (some (a.add 1))) w:=qX (k:=1) (off:=1) Tryz.underlying140 rfl Tryz.sizeOf46 (by decide) rfl a w
theorem sX (a:Addr) (w:World):(Instr.fieldAt 166 (.pointer (some a)) 0).run Tryz.prog w= .ok (.pointer (some (a.add 0))) w:=qX (k:=0) (off:=0) Tryz.underlying166 rfl Tryz.sizeOf2 (by decide) rfl a w
theorem yX (a:Addr) (w:World):(Instr.fieldAt 166 (.pointer (some a)) 1).run Tryz.prog w= .ok (.pointer (some (a.add 1))) w:=qX (k:=1) (off:=1) Tryz.underlying166 rfl Tryz.sizeOf2 (by decide) rfl a w
theorem yV (a:Addr) (w:World):(Instr.fieldAt 166 (.pointer (some a)) 2).run Tryz.prog w= .ok (.pointer (some (a.add 2))) w:=qX (k:=2) (off:=2) Tryz.underlying166 rfl Tryz.sizeOf2 (by decide) rfl a w
theorem xLe (a:Addr) (w:World):(Instr.fieldAt 178 (.pointer (some a)) 0).run Tryz.prog w= .ok (.pointer (some (a.add 0))) w:=qX (k:=0) (off:=0) Tryz.underlying178 rfl Tryz.sizeOf26 (by decide) rfl a w
theorem xRr (a:Addr) (w:World):(Instr.fieldAt 178 (.pointer (some a)) 1).run Tryz.prog w= .ok (.pointer (some (a.add 2))) w:=qX (k:=1) (off:=2) Tryz.underlying178 rfl Tryz.sizeOf2 (by decide) rfl a w
theorem xHc (a:Addr) (w:World):(Instr.fieldAt 178 (.pointer (some a)) 2).run Tryz.prog w= .ok (.pointer (some (a.add 3))) w:=qX (k:=2) (off:=3) Tryz.underlying178 rfl Tryz.sizeOf176 (by decide) rfl a w
theorem jO:type_of% @Tryz.call105:=@Tryz.call105
theorem kZ:type_of% @Tryz.call28:=@Tryz.call28
theorem mC:type_of% @Tryz.call52:=@Tryz.call52
theorem pT:type_of% @Tryz.call57:=@Tryz.call57
theorem iW:type_of% @Tryz.call59:=@Tryz.call59
theorem cX:type_of% @Tryz.call88:=@Tryz.call88
theorem xN:type_of% @Tryz.isAgg2:=@Tryz.isAgg2
theorem kM:type_of% @Tryz.isAgg24:=@Tryz.isAgg24
theorem qU:type_of% @Tryz.isAgg26:=@Tryz.isAgg26
theorem vR:type_of% @Tryz.isAgg27:=@Tryz.isAgg27
theorem vO:type_of% @Tryz.isAgg29:=@Tryz.isAgg29
theorem mM:type_of% @Tryz.isAgg3:=@Tryz.isAgg3
theorem pH:type_of% @Tryz.isAgg32:=@Tryz.isAgg32
theorem zD:type_of% @Tryz.isAgg38:=@Tryz.isAgg38
theorem dI:type_of% @Tryz.isAgg45:=@Tryz.isAgg45
theorem qE:type_of% @Tryz.isAgg46:=@Tryz.isAgg46
theorem zF:type_of% @Tryz.isAgg65:=@Tryz.isAgg65
theorem iB:type_of% @Tryz.isAgg68:=@Tryz.isAgg68
theorem cB:type_of% @Tryz.isAgg75:=@Tryz.isAgg75
theorem dU:type_of% @Tryz.isAgg76:=@Tryz.isAgg76
theorem iH:type_of% @Tryz.isAgg84:=@Tryz.isAgg84
theorem jB:type_of% @Tryz.isAgg9:=@Tryz.isAgg9
theorem rF:type_of% @Tryz.sizeOf107:=@Tryz.sizeOf107
theorem rG:type_of% @Tryz.sizeOf138:=@Tryz.sizeOf138
theorem eR:type_of% @Tryz.sizeOf140:=@Tryz.sizeOf140
theorem lL:type_of% @Tryz.sizeOf166:=@Tryz.sizeOf166
theorem xI:type_of% @Tryz.sizeOf2:=@Tryz.sizeOf2
theorem eA:type_of% @Tryz.sizeOf24:=@Tryz.sizeOf24
theorem oH:type_of% @Tryz.sizeOf26:=@Tryz.sizeOf26
theorem cL:type_of% @Tryz.sizeOf27:=@Tryz.sizeOf27
theorem oZ:type_of% @Tryz.sizeOf29:=@Tryz.sizeOf29
theorem mX:type_of% @Tryz.sizeOf3:=@Tryz.sizeOf3
theorem kF:type_of% @Tryz.sizeOf38:=@Tryz.sizeOf38
theorem vD:type_of% @Tryz.sizeOf45:=@Tryz.sizeOf45
theorem xU:type_of% @Tryz.sizeOf46:=@Tryz.sizeOf46
theorem oE:type_of% @Tryz.sizeOf65:=@Tryz.sizeOf65
theorem zA:type_of% @Tryz.sizeOf68:=@Tryz.sizeOf68
theorem kR:type_of% @Tryz.sizeOf88:=@Tryz.sizeOf88
theorem gA:type_of% @Tryz.sizeOf9:=@Tryz.sizeOf9
theorem lF:type_of% @Tryz.sizeOf90:=@Tryz.sizeOf90
theorem kG:type_of% @Tryz.underlying103:=@Tryz.underlying103
theorem gT:type_of% @Tryz.underlying108:=@Tryz.underlying108
theorem cJ:type_of% @Tryz.underlying138:=@Tryz.underlying138
theorem hJ:type_of% @Tryz.underlying150:=@Tryz.underlying150
theorem nS:type_of% @Tryz.underlying166:=@Tryz.underlying166
theorem lA:type_of% @Tryz.underlying176:=@Tryz.underlying176
theorem bP:type_of% @Tryz.underlying197:=@Tryz.underlying197
theorem mQ:type_of% @Tryz.underlying22:=@Tryz.underlying22
theorem qP:type_of% @Tryz.underlying24:=@Tryz.underlying24
theorem pS:type_of% @Tryz.underlying26:=@Tryz.underlying26
theorem oY:type_of% @Tryz.underlying27:=@Tryz.underlying27
theorem gG:type_of% @Tryz.underlying29:=@Tryz.underlying29
theorem nE:type_of% @Tryz.underlying3:=@Tryz.underlying3
theorem qD:type_of% @Tryz.underlying32:=@Tryz.underlying32
theorem xK:type_of% @Tryz.underlying38:=@Tryz.underlying38
theorem fB:type_of% @Tryz.underlying45:=@Tryz.underlying45
theorem xC:type_of% @Tryz.underlying46:=@Tryz.underlying46
theorem lY:type_of% @Tryz.underlying65:=@Tryz.underlying65
theorem dT:type_of% @Tryz.underlying68:=@Tryz.underlying68
theorem vW:type_of% @Tryz.underlying75:=@Tryz.underlying75
theorem zU:type_of% @Tryz.underlying76:=@Tryz.underlying76
theorem bL:type_of% @Tryz.underlying84:=@Tryz.underlying84
theorem pV:type_of% @Tryz.underlying88:=@Tryz.underlying88
theorem pQ:type_of% @Tryz.underlying90:=@Tryz.underlying90
theorem mK:type_of% @Tryz.zeroValue140:=@Tryz.zeroValue140
theorem iQ:type_of% @Tryz.zeroValue166:=@Tryz.zeroValue166
theorem qQ:type_of% @Tryz.zeroValue2:=@Tryz.zeroValue2
theorem aG:type_of% @Tryz.zeroValue26:=@Tryz.zeroValue26
theorem kH:type_of% @Tryz.zeroValue29:=@Tryz.zeroValue29
theorem cQ:type_of% @Tryz.zeroValue38:=@Tryz.zeroValue38
theorem kC:type_of% @Tryz.zeroValue45:=@Tryz.zeroValue45
theorem cC:type_of% @Tryz.zeroValue46:=@Tryz.zeroValue46
theorem zL:type_of% @Tryz.zeroValue65:=@Tryz.zeroValue65
theorem zM:type_of% @Tryz.zeroValue68:=@Tryz.zeroValue68
theorem kP:type_of% @Tryz.zeroValue88:=@Tryz.zeroValue88
theorem iF:type_of% @Tryz.zeroValue90:=@Tryz.zeroValue90
end Go.Proofs.YtfmnjkpddljdcaaGreatDoor
