import Derived.Test.YtfmnjkpddljdcaaGreatDoorU
namespace Go.Proofs.YtfmnjkpddljdcaaGreatDoor
set_option linter.unusedVariables false
set_option linter.unusedSimpArgs false
open Go.RowKit
theorem sn {L:List (Nat×Value)}:sub L []:=trivial
theorem sc {L M:List (Nat×Value)} {t:Nat} {v:Value} (h:sC L t=some v) (k:sub L M):sub L ((t,v)::M):=⟨h,k⟩
theorem zW {α:Type} {b:Bool} {x y r:α} (hb:b=true) (h:(if b then x else y)=r):x=r:=by rw[if_pos hb] at h;exact h
theorem zV {α:Type} {b:Bool} {x y r:α} (hb:b=false) (h:(if b then x else y)=r):y=r:=by rw[if_neg (by rw[hb];exact Bool.false_ne_true)] at h;exact h
theorem oJ {σ ρ:Type} {k:σ→Option ρ} {r:ρ} {s:σ} (h:xSw k r (.nx s)):k s=some r:=h
theorem bR {σ ρ:Type} {k:σ→Option ρ} {r v:ρ} {o:Out σ ρ} (h:some (.ret v)=some o) (hk:xSw k r o):some v=some r:=by
  obtain rfl:=Option.some.inj h;exact congrArg some hk
theorem aB {σ ρ:Type} {k:σ→Option (Out σ ρ)} {o:Out σ ρ} {s:σ} {c:Ctl σ ρ} (h:some (.go s)=some c) (hn:Nxt k o c):k s=some o:=by
  obtain rfl:=Option.some.inj h;exact hn
theorem rT {σ ρ:Type} {k:σ→Option (Out σ ρ)} {o:Out σ ρ} {s:σ} {c:Ctl σ ρ} (h:some (.brk s)=some c) (hn:Nxt k o c):some (.nx s)=some o:=by
  obtain rfl:=Option.some.inj h;exact congrArg some (Eq.symm hn)
theorem bQ {σ ρ:Type} {k:σ→Option (Out σ ρ)} {o:Out σ ρ} {v:ρ} {c:Ctl σ ρ} (h:some (.ret v)=some c) (hn:Nxt k o c):some (.ret v)=some o:=by
  obtain rfl:=Option.some.inj h;exact congrArg some (Eq.symm hn)
theorem vY {α σ ρ:Type} {body:Nat→α→σ→Option (Ctl σ ρ)} {l:List α} {k:Nat} {s:σ} {r:Out σ ρ} (h:qW body l k s=some r):∃ f,f=body∧qW f l k s=some r:=⟨_,rfl,h⟩
theorem gW {σ ρ:Type} {body:Nat→σ→Option (Ctl σ ρ)} {m k:Nat} {s:σ} {r:Out σ ρ} (h:eJ body m k s=some r):∃ f,f=body∧eJ f m k s=some r:=⟨_,rfl,h⟩
theorem iO {σ ρ:Type} {body:σ→Option (Ctl σ ρ)} {m:Nat} {s:σ} {r:Out σ ρ} (h:lD body m s=some r):∃ f,f=body∧lD f m s=some r:=⟨_,rfl,h⟩
theorem vX {α σ ρ:Type} {body:Nat→α→σ→Option (Ctl σ ρ)} {k:Nat} {s:σ} {r:Out σ ρ} (h:qW body [] k s=some r):some (.nx s)=some r:=h
theorem fJ {σ ρ:Type} {body:Nat→σ→Option (Ctl σ ρ)} {k:Nat} {s:σ} {r:Out σ ρ} (h:eJ body 0 k s=some r):some (.nx s)=some r:=h
theorem zI {α:Type} {l:List α} {k:Nat} {x:α} (h:l[k]?=some x):ix l (k:Int)=some x:=by
  unfold ix;rw[if_pos (by omega)];simpa using h
theorem zT {k n:Nat} (h:k<n):decide ((k:Int)<(n:Int))=true:=by simp;omega
theorem kW {k n:Nat} (h:(k:Int)=(n:Int)):decide ((k:Int)<(n:Int))=false:=by simp;omega
theorem k64 {k n:Nat} (h:k≤n) (hn:xS (n:Int)):xS (k:Int):=⟨by omega,by have:=hn.2;omega⟩
theorem bG {k n:Nat} (h:k<n) (hn:xS (n:Int)):xS ((k+1:Nat):Int):=⟨by omega,by have:=hn.2;omega⟩
theorem Rd.nil {α:Type} (sz:Nat) (R:ER α) (w:World):Rd (Sl sz R) w (.slice none 0 0) [] []:=⟨Sl.nil sz R w,kD.nil w⟩
def lI (x:Int) (w:World) (e:Ending) (w':World):Prop:=bK (.int .i64 x) w e w'∧xS x
theorem Calls.some {P:Program} {f:FuncId} {args:Array Value} {w:World} {R:Ending→World→Prop} (h:Calls P f args w R):∃ e w',R e w':=let ⟨e,w',_,h1,_⟩:=h [];⟨e,w',h1⟩
section
variable {P:Program} {ops:Array Oper} {Q:Exit→Act→World→Prop} {C:World→Prop} {K:Act→Prop} {a:Act} {w:World} {n:Nat} {L:List (Nat×Value)} {rest:List Oper} {d:Nat} {dd:Option Tmp} {ty:TypeId} {pos:String} {af:Array Edge} {g:Option (Nat×Bool)}
theorem aD (F:Sk a n L) {c:Operand} {b:Bool} {x y:Code} (e:ev L c=some (.bool b)) (hb:b=true) (h:x.wp P Q a w):(Code.cond c x y).wp P Q a w:=by subst hb;exact xMs F e h
theorem aC (F:Sk a n L) {c:Operand} {b:Bool} {x y:Code} (e:ev L c=some (.bool b)) (hb:b=false) (h:y.wp P Q a w):(Code.cond c x y).wp P Q a w:=by subst hb;exact xTi F e h
end
section
variable {P:Program} {ops:Array Oper} {C:World→Prop} {K:Act→Prop} {a:Act} {w:World} {n:Nat} {L:List (Nat×Value)} {rest:List Oper} {d:Nat} {ty:TypeId} {pos:String} {af:Array Edge} {g:Option (Nat×Bool)}
theorem oD {dd:Option Tmp} {x:Operand} {t:TypeId} {kk b o o' off:Nat} (hp:∀ (a:Addr) w,(Instr.fieldAt t (.pointer (some a)) kk).run P w= .ok (.pointer (some (a.add off))) w)
    (F:Sk a n L) (he:ev L x=some (.pointer (some ⟨b,o,none⟩))) (ho:o+off=o') {w':World}:(execOp a.eval ⟨dd,.fieldAddr t x kk,ty,pos,af,g⟩).run P w'= .ok (.value (.pointer (some ⟨b,o',none⟩))) w':=by
  subst ho
  unfold execOp
  simp [F.ev he,hp,dD]
end
theorem qX {P:Program} {t:TypeId} {fs:Array Field} {f:Field} {k s off:Nat} (ht:P.underlying t=some (.struct fs)) (hk:fs[k]?=some f) (hs:∀ w,(sizeOf f.type).run P w= .ok s w) (h0:s≠0) (ho:f.offset=off) (a:Addr) (w:World) :
    (Instr.fieldAt t (.pointer (some a)) k).run P w= .ok (.pointer (some (a.add off))) w:=by
  subst ho
  simp [Instr.fieldAt,run_underlying ht,hk,Instr.sureAddr,fieldPlace,hs,h0]
end Go.Proofs.YtfmnjkpddljdcaaGreatDoor
