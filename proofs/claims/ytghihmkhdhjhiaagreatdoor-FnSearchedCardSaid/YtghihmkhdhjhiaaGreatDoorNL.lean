import Derived.Test.YtghihmkhdhjhiaaGreatDoorNF
namespace Go.Proofs.YtghihmkhdhjhiaaGreatDoor
set_option linter.unusedVariables false
set_option linter.unusedSimpArgs false
open Go.RowKit
section
variable {P:Program} {ops:Array Oper} {Q:Exit→Act→World→Prop} {a:Act} {w w0 w1:World} {n:Nat} {L:List (Nat×Value)} {rest:List Oper} {d:Nat} {ty:TypeId} {pos:String} {af:Array Edge} {g:Option (Nat×Bool)}
theorem xMp {x y:Operand} {t t':TypeId} {i j:Int} (F:Sk a n L) (hc:kV ops n L g d=true) (e:ev L x=some (.int .u64 i)) (e':ev L y=some (.int .u64 j))
    (k:∀ a',Sk a' n ((d,.int .u64 (IntKind.u64.wrap (i+j)))::L)→wpList P ops Q rest a' w):wpList P ops Q (⟨some d,.binOp .add t x y t',ty,pos,af,g⟩::rest) a w:=by
  refine zA F hc ?_ k
  unfold execOp
  simp only[F.ev e,F.ev e']
  rfl
theorem xPd {x y:Operand} {t t':TypeId} {i j:Int} (F:Sk a n L) (hc:kV ops n L g d=true) (e:ev L x=some (.int .u64 i)) (e':ev L y=some (.int .u64 j))
    (k:∀ a',Sk a' n ((d,.int .u64 (IntKind.u64.wrap (i*j)))::L)→wpList P ops Q rest a' w):wpList P ops Q (⟨some d,.binOp .mul t x y t',ty,pos,af,g⟩::rest) a w:=by
  refine zA F hc ?_ k
  unfold execOp
  simp only[F.ev e,F.ev e']
  rfl
theorem xOt {x y:Operand} {t t':TypeId} {i j:Int} (F:Sk a n L) (hc:kV ops n L g d=true) (e:ev L x=some (.int .u64 i)) (e':ev L y=some (.int .u64 j))
    (k:∀ a',Sk a' n ((d,.int .u64 (Go.bits .and .u64 i j))::L)→wpList P ops Q rest a' w):wpList P ops Q (⟨some d,.binOp .and t x y t',ty,pos,af,g⟩::rest) a w:=by
  refine zA F hc ?_ k
  unfold execOp
  simp only[F.ev e,F.ev e']
  rfl
theorem xOx {x:Operand} {t t':TypeId} {i j:Int} (F:Sk a n L) (hc:kV ops n L g d=true) (e:ev L x=some (.int .u64 i)) (hj:0≤j∧j≤64)
    (k:∀ a',Sk a' n ((d,.int .u64 (i / 2 ^ j.toNat))::L)→wpList P ops Q rest a' w):wpList P ops Q (⟨some d,.binOp .shr t x (.const (.int .u64 j)) t',ty,pos,af,g⟩::rest) a w:=by
  refine zA F hc ?_ k
  unfold execOp
  simp only[F.ev e];have h2:a.eval (.const (.int .u64 j))= .int .u64 j:=rfl;rw[h2]
  simp [eqGuard,binOp,shift_shr_u64 .u64 i j hj.1 hj.2]
theorem oUw {x:Operand} {t t':TypeId} {i:Int} {ut:TypeDesc} (hs:P.underlying t=some ut) (ht:P.underlying t'=some (.int .i64)) (F:Sk a n L) (hc:kV ops n L g d=true) (e:ev L x=some (.int .u64 i))
    (k:∀ a',Sk a' n ((d,.int .i64 (IntKind.i64.wrap i))::L)→wpList P ops Q rest a' w):wpList P ops Q (⟨some d,.convert t t' x,ty,pos,af,g⟩::rest) a w:=by
  refine zA F hc ?_ k
  unfold execOp
  simp [F.ev e,convert,run_underlying hs,run_underlying ht,Conv.intToInt]
end
end Go.Proofs.YtghihmkhdhjhiaaGreatDoor
