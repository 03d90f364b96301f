import Derived.Test.YtncganhbpbehaaaGreatNF
import Derived.Test.YtncganhbpbehaaaGreatZ
import Derived.Tactics
import Derived.Laws.StructEq
namespace Go.Proofs.YtncganhbpbehaaaGreat
set_option linter.unusedVariables false
set_option linter.unusedSimpArgs false
set_option maxRecDepth 100000
open Go.RowKit
theorem xPl (a b c d:Int) (w:World):(Op.equalIn 10000 35 (.agg #[xC a,xC b]) (.agg #[xC c,xC d])).run Tryz.prog w= .ok (a==c && b==d) w:=by
  have h:=Tryz.underlying2;have i:=Tryz.isAgg2;have j:=Tryz.sizeOf2
  have hS:Tryz.prog.underlying 35=some (.struct (Tryz.prog.fieldsOf 35)):=by kernel_rfl
  have hp:Tryz.prog.stoodInHeld 35=false:=by kernel_rfl
  rw[show(10000:Nat)=9999+1 from rfl,run_equalIn_agg w 9999 35 _ _ hS hp];simp only[Program.fieldsOf,Tryz.underlying35]
  go_simp
  by_cases e:a=c<;>by_cases f:b=d<;>simp [e,f]
section
variable {a:Act} {n:Nat} {L:List (Nat×Value)} {dd:Option Tmp} {ty:TypeId} {pos:String} {af:Array Edge} {g:Option (Nat×Bool)} {M M':Nat→Prop} {wa wb:World}
theorem xPe {x y:Operand} {t':TypeId} {vx vy:Value} {p q:Literal} (F:Sk a n L) (e:ev L x=some vx) (e':ev L y=some vy) (hx:Bo M wa (kK 2 xU) vx p) (hy:Bo M' wb (kK 2 xU) vy q) {w':World} :
    (execOp a.eval ⟨dd,.binOp .neq 35 x y t',ty,pos,af,g⟩).run Tryz.prog w'= .ok (.value (.bool (!(p.var==q.var && p.value==q.value)))) w':=by
  obtain⟨f,c,_⟩:=hx;obtain⟨h,d,_⟩:=hy;obtain⟨rfl,_⟩:=xU.open c.r;obtain⟨rfl,_⟩:=xU.open d.r
  have hm:Tryz.prog.eqGuardType Tryz.prog.depth 35=false:=by kernel_rfl
  unfold execOp
  simp only[F.ev e,F.ev e',Sem.run_bind,run_eqGuard_agg w' .neq 35 x y _ _ hm,Result.andThen_ok,run_neq_struct,xPl]
  rfl
end
end Go.Proofs.YtncganhbpbehaaaGreat
