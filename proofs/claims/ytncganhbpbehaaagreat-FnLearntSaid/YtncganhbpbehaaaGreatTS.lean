import Derived.Test.YtncganhbpbehaaaGreatQ
import Derived.Laws.BytesString
namespace Go.Proofs.YtncganhbpbehaaaGreat
set_option linter.unusedVariables false
set_option linter.unusedSimpArgs false
open Go.RowKit
def u8w (n:Int):UInt8:=UInt8.ofNat (n % 256).toNat
theorem xLt (n:Int):IntKind.u8.wrap n=((u8w n).toNat:Int):=by
  unfold IntKind.wrap u8w
  simp only[show IntKind.u8.bits=8 from rfl,show IntKind.u8.signed=false from rfl];have h1:=Int.emod_nonneg n (show(256:Int)≠0 by decide);have h2:=Int.emod_lt_of_pos n (show(0:Int)<256 by decide)
  have h3:(UInt8.ofNat (n % 256).toNat).toNat=(n % 256).toNat:=by
    simp
    omega
  rw[h3]
  simp
  omega
theorem xJx (c:UInt8):xS (c.toNat:Int):=⟨by omega,by have:=c.toNat_lt;omega⟩
section
variable {P:Program} {ops:Array Oper} {Q:Exit→Act→World→Prop} {a:Act} {w:World} {n:Nat} {L:List (Nat×Value)} {rest:List Oper} {d:Nat} {dd:Option Tmp} {ty:TypeId} {pos:String} {af:Array Edge} {g:Option (Nat×Bool)}
theorem xLr {x:Operand} {t t':TypeId} {k0:IntKind} {i:Int} {ut:TypeDesc} (hs:P.underlying t=some ut) (ht:P.underlying t'=some (.int .u8)) (F:Sk a n L) (e:ev L x=some (.int .i64 i)) {w':World} :
    (execOp a.eval ⟨dd,.convert t t' x,ty,pos,af,g⟩).run P w'= .ok (.value (.int .u8 (u8w i).toNat)) w':=by
  rw[← xLt]
  unfold execOp
  simp [F.ev e,convert,run_underlying hs,run_underlying ht,Conv.intToInt]
theorem xMk {x:Operand} {t t':TypeId} {c:UInt8} {ut:TypeDesc} (hs:P.underlying t=some ut) (ht:P.underlying t'=some (.int .i64)) (F:Sk a n L) (e:ev L x=some (.int .u8 c.toNat)) {w':World} :
    (execOp a.eval ⟨dd,.convert t t' x,ty,pos,af,g⟩).run P w'= .ok (.value (.int .i64 c.toNat)) w':=by
  have hw:IntKind.i64.wrap (c.toNat:Int)=c.toNat:=IntWalk.i64_in _ (xJx c)
  unfold execOp
  simp [F.ev e,convert,run_underlying hs,run_underlying ht,Conv.intToInt,hw]
theorem El.u8 {c:UInt8}:El 1 bS w (.int .u8 c.toNat) c []:=⟨rfl,⟨rfl,rfl⟩,by simp [Value.cells,Value.oneCell'],zK.nil w⟩
end
end Go.Proofs.YtncganhbpbehaaaGreat
