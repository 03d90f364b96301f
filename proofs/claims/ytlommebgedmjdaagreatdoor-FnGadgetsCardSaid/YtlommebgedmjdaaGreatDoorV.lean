import Derived.Test.YtlommebgedmjdaaGreatDoorU
namespace Go.Proofs.YtlommebgedmjdaaGreatDoor
set_option linter.unusedVariables false
set_option linter.unusedSimpArgs false
open Go.RowKit
theorem sn {L:List (Nat×Value)}:sub L []:=trivial
theorem sc {L M:List (Nat×Value)} {t:Nat} {v:Value} (h:nZ L t=some v) (k:sub L M):sub L ((t,v)::M):=⟨h,k⟩
theorem ifT {α:Type} {b:Bool} {x y r:α} (hb:b=true) (h:(if b then x else y)=r):x=r:=by rw[if_pos hb] at h;exact h
theorem ifF {α:Type} {b:Bool} {x y r:α} (hb:b=false) (h:(if b then x else y)=r):y=r:=by rw[if_neg (by rw[hb];exact Bool.false_ne_true)] at h;exact h
theorem xOi {σ ρ:Type} {k:σ→Option ρ} {r:ρ} {s:σ} (h:xTi k r (.nx s)):k s=some r:=h
theorem oAr {σ ρ:Type} {k:σ→Option ρ} {r v:ρ} {o:Out σ ρ} (h:some (.ret v)=some o) (hk:xTi k r o):some v=some r:=by
  obtain rfl:=Option.some.inj h;exact congrArg some hk
theorem oBb {σ ρ:Type} {k:σ→Option (Out σ ρ)} {o:Out σ ρ} {s:σ} {c:Ctl σ ρ} (h:some (.go s)=some c) (hn:Nxt k o c):k s=some o:=by
  obtain rfl:=Option.some.inj h;exact hn
theorem oBr {σ ρ:Type} {k:σ→Option (Out σ ρ)} {o:Out σ ρ} {v:ρ} {c:Ctl σ ρ} (h:some (.ret v)=some c) (hn:Nxt k o c):some (.ret v)=some o:=by
  obtain rfl:=Option.some.inj h;exact congrArg some (Eq.symm hn)
theorem xTf {α σ ρ:Type} {body:Nat→α→σ→Option (Ctl σ ρ)} {l:List α} {k:Nat} {s:σ} {r:Out σ ρ} (h:oM body l k s=some r):∃ f,f=body∧oM f l k s=some r:=⟨_,rfl,h⟩
theorem xSg {σ ρ:Type} {body:Nat→σ→Option (Ctl σ ρ)} {m k:Nat} {s:σ} {r:Out σ ρ} (h:aY body m k s=some r):∃ f,f=body∧aY f m k s=some r:=⟨_,rfl,h⟩
theorem xRk {α σ ρ:Type} {body:Nat→α→σ→Option (Ctl σ ρ)} {k:Nat} {s:σ} {r:Out σ ρ} (h:oM body [] k s=some r):some (.nx s)=some r:=h
theorem xPz {σ ρ:Type} {body:Nat→σ→Option (Ctl σ ρ)} {k:Nat} {s:σ} {r:Out σ ρ} (h:aY body 0 k s=some r):some (.nx s)=some r:=h
theorem zO {α:Type} {l:List α} {k:Nat} {x:α} (h:l[k]?=some x):ix l (k:Int)=some x:=by
  unfold ix;rw[if_pos (by omega)];simpa using h
theorem xW {k n:Nat} (h:k<n):decide ((k:Int)<(n:Int))=true:=by simp;omega
theorem qC {k n:Nat} (h:(k:Int)=(n:Int)):decide ((k:Int)<(n:Int))=false:=by simp;omega
theorem jZ {k n:Nat} (h:k≤n) (hn:xH (n:Int)):xH (k:Int):=⟨by omega,by have:=hn.2;omega⟩
theorem vK {k n:Nat} (h:k<n) (hn:xH (n:Int)):xH ((k+1:Nat):Int):=⟨by omega,by have:=hn.2;omega⟩
theorem Rd.nil {α:Type} (sz:Nat) (R:ER α) (w:World):Rd (Sl sz R) w (.slice none 0 0) [] []:=⟨Sl.nil sz R w,qM.nil w⟩
def oAx (x:Int) (w:World) (e:Ending) (w':World):Prop:=xDj (.int .i64 x) w e w'∧xH x
theorem Calls.some {P:Program} {f:FuncId} {args:Array Value} {w:World} {R:Ending→World→Prop} (h:Calls P f args w R):∃ e w',R e w':=let ⟨e,w',_,h1,_⟩:=h [];⟨e,w',h1⟩
section
variable {P:Program} {ops:Array Oper} {Q:Exit→Act→World→Prop} {C:World→Prop} {K:Act→Prop} {a:Act} {w:World} {n:Nat} {L:List (Nat×Value)} {rest:List Oper} {d:Nat} {dd:Option Tmp} {ty:TypeId} {pos:String} {af:Array Edge} {g:Option (Nat×Bool)}
theorem xOl (F:Sk a n L) {c:Operand} {b:Bool} {x y:Code} (e:ev L c=some (.bool b)) (hb:b=true) (h:x.wp P Q a w):(Code.cond c x y).wp P Q a w:=by subst hb;exact xTg F e h
theorem xIn (F:Sk a n L) {c:Operand} {b:Bool} {x y:Code} (e:ev L c=some (.bool b)) (hb:b=false) (h:y.wp P Q a w):(Code.cond c x y).wp P Q a w:=by subst hb;exact xTm F e h
end
section
variable {P:Program} {ops:Array Oper} {C:World→Prop} {K:Act→Prop} {a:Act} {w:World} {n:Nat} {L:List (Nat×Value)} {rest:List Oper} {d:Nat} {ty:TypeId} {pos:String} {af:Array Edge} {g:Option (Nat×Bool)}
theorem xAl {dd:Option Tmp} {x:Operand} {t:TypeId} {kk b o o' off:Nat} (hp:∀ (a:Addr) w,(Instr.fieldAt t (.pointer (some a)) kk).run P w= .ok (.pointer (some (a.add off))) w)
    (F:Sk a n L) (he:ev L x=some (.pointer (some ⟨b,o,none⟩))) (ho:o+off=o') {w':World}:(execOp a.eval ⟨dd,.fieldAddr t x kk,ty,pos,af,g⟩).run P w'= .ok (.value (.pointer (some ⟨b,o',none⟩))) w':=by
  subst ho
  unfold execOp
  simp [F.ev he,hp,iF]
end
theorem qK {P:Program} {t:TypeId} {fs:Array Field} {f:Field} {k s off:Nat} (ht:P.underlying t=some (.struct fs)) (hk:fs[k]?=some f) (hs:∀ w,(sizeOf f.type).run P w= .ok s w) (h0:s≠0) (ho:f.offset=off) (a:Addr) (w:World) :
    (Instr.fieldAt t (.pointer (some a)) k).run P w= .ok (.pointer (some (a.add off))) w:=by
  subst ho
  simp [Instr.fieldAt,run_underlying ht,hk,Instr.sureAddr,fieldPlace,hs,h0]
end Go.Proofs.YtlommebgedmjdaaGreatDoor
