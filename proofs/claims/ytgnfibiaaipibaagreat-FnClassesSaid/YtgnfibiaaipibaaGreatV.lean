import Derived.Test.YtgnfibiaaipibaaGreatU
namespace Go.Proofs.YtgnfibiaaipibaaGreat
set_option linter.unusedVariables false
set_option linter.unusedSimpArgs false
open Go.RowKit
theorem sn {L:List (Nat×Value)}:sub L []:=trivial
theorem sc {L M:List (Nat×Value)} {t:Nat} {v:Value} (h:look L t=some v) (k:sub L M):sub L ((t,v)::M):=⟨h,k⟩
theorem vR {α:Type} {b:Bool} {x y r:α} (hb:b=true) (h:(if b then x else y)=r):x=r:=by rw[if_pos hb] at h;exact h
theorem vQ {α:Type} {b:Bool} {x y r:α} (hb:b=false) (h:(if b then x else y)=r):y=r:=by rw[if_neg (by rw[hb];exact Bool.false_ne_true)] at h;exact h
theorem xN {σ ρ:Type} {k:σ→Option ρ} {r:ρ} {s:σ} (h:Then k r (.nx s)):k s=some r:=h
theorem zQ {σ ρ:Type} {k:σ→Option ρ} {r v:ρ} {o:Out σ ρ} (h:some (.ret v)=some o) (hk:Then k r o):some v=some r:=by
  obtain rfl:=Option.some.inj h;exact congrArg some hk
theorem qX {σ ρ:Type} {k:σ→Option (Out σ ρ)} {o:Out σ ρ} {s:σ} {c:Ctl σ ρ} (h:some (.go s)=some c) (hn:Nxt k o c):k s=some o:=by
  obtain rfl:=Option.some.inj h;exact hn
theorem eL {σ ρ:Type} {k:σ→Option (Out σ ρ)} {o:Out σ ρ} {s:σ} {c:Ctl σ ρ} (h:some (.brk s)=some c) (hn:Nxt k o c):some (.nx s)=some o:=by
  obtain rfl:=Option.some.inj h;exact congrArg some (Eq.symm hn)
theorem zR {σ ρ:Type} {k:σ→Option (Out σ ρ)} {o:Out σ ρ} {v:ρ} {c:Ctl σ ρ} (h:some (.ret v)=some c) (hn:Nxt k o c):some (.ret v)=some o:=by
  obtain rfl:=Option.some.inj h;exact congrArg some (Eq.symm hn)
theorem qE {α σ ρ:Type} {body:Nat→α→σ→Option (Ctl σ ρ)} {l:List α} {k:Nat} {s:σ} {r:Out σ ρ} (h:qJ body l k s=some r):∃ f,f=body∧qJ f l k s=some r:=⟨_,rfl,h⟩
theorem zG {σ ρ:Type} {body:Nat→σ→Option (Ctl σ ρ)} {m k:Nat} {s:σ} {r:Out σ ρ} (h:zH body m k s=some r):∃ f,f=body∧zH f m k s=some r:=⟨_,rfl,h⟩
theorem kU {σ ρ:Type} {body:σ→Option (Ctl σ ρ)} {m:Nat} {s:σ} {r:Out σ ρ} (h:cF body m s=some r):∃ f,f=body∧cF f m s=some r:=⟨_,rfl,h⟩
theorem qH {α σ ρ:Type} {body:Nat→α→σ→Option (Ctl σ ρ)} {k:Nat} {s:σ} {r:Out σ ρ} (h:qJ body [] k s=some r):some (.nx s)=some r:=h
theorem vY {σ ρ:Type} {body:Nat→σ→Option (Ctl σ ρ)} {k:Nat} {s:σ} {r:Out σ ρ} (h:zH body 0 k s=some r):some (.nx s)=some r:=h
theorem oZ {α:Type} {l:List α} {k:Nat} {x:α} (h:l[k]?=some x):ix l (k:Int)=some x:=by
  unfold ix;rw[if_pos (by omega)];simpa using h
theorem qM {k n:Nat} (h:k<n):decide ((k:Int)<(n:Int))=true:=by simp;omega
theorem vA {k n:Nat} (h:(k:Int)=(n:Int)):decide ((k:Int)<(n:Int))=false:=by simp;omega
theorem fE {k n:Nat} (h:k≤n) (hn:xZ (n:Int)):xZ (k:Int):=⟨by omega,by have:=hn.2;omega⟩
theorem zC {k n:Nat} (h:k<n) (hn:xZ (n:Int)):xZ ((k+1:Nat):Int):=⟨by omega,by have:=hn.2;omega⟩
theorem Rd.nil {α:Type} (sz:Nat) (R:ER α) (w:World):Rd (Sl sz R) w (.slice none 0 0) [] []:=⟨Sl.nil sz R w,zD.nil w⟩
def dW (x:Int) (w:World) (e:Ending) (w':World):Prop:=zO (.int .i64 x) w e w'∧xZ x
theorem Calls.some {P:Program} {f:FuncId} {args:Array Value} {w:World} {R:Ending→World→Prop} (h:Calls P f args w R):∃ e w',R e w':=let ⟨e,w',_,h1,_⟩:=h [];⟨e,w',h1⟩
section
variable {P:Program} {ops:Array Oper} {Q:Exit→Act→World→Prop} {C:World→Prop} {K:Act→Prop} {a:Act} {w:World} {n:Nat} {L:List (Nat×Value)} {rest:List Oper} {d:Nat} {dd:Option Tmp} {ty:TypeId} {pos:String} {af:Array Edge} {g:Option (Nat×Bool)}
theorem q_saysI {f:FuncId} {xs:List Operand} {at':Array TypeId} {vs:List Value} {i:Int} (F:Sk a n L) (hc:kK ops n L g d=true) (hf:∀ args w,(callFunc f args).run P w= .ok (.enter f args) w)
    (e:evs L xs=some vs) (hC:∀ w w',C w→Below w.heap.size w w'→C w') (w:World) (hw:C w) (cl:∀ w,C w→Calls P f vs.toArray w (dW i w))
    (k:∀ a',xZ i→Sk a' n ((d,.int .i64 i)::L)→wpQuiet P ops C K rest a') :
    wpQuiet P ops C K (⟨some d,.call ⟨.value (.func f),xs.toArray,at'⟩,ty,pos,af,g⟩::rest) a:=
  dD F hc hf e hC (fun w h=>(cl w h).mono fun e w' h=>h.1) (fun a' F'=>k a' (let ⟨_,_,h⟩:=Calls.some (cl w hw);h.2) F')
theorem qV (F:Sk a n L) {c:Operand} {b:Bool} {x y:Code} (e:ev L c=some (.bool b)) (hb:b=true) (h:x.wp P Q a w):(Code.cond c x y).wp P Q a w:=by subst hb;exact x_ift F e h
theorem qT (F:Sk a n L) {c:Operand} {b:Bool} {x y:Code} (e:ev L c=some (.bool b)) (hb:b=false) (h:y.wp P Q a w):(Code.cond c x y).wp P Q a w:=by subst hb;exact x_iff F e h
end
section
variable {P:Program} {ops:Array Oper} {C:World→Prop} {K:Act→Prop} {a:Act} {w:World} {n:Nat} {L:List (Nat×Value)} {rest:List Oper} {d:Nat} {ty:TypeId} {pos:String} {af:Array Edge} {g:Option (Nat×Bool)}
theorem vG {dd:Option Tmp} {x:Operand} {t:TypeId} {kk b o o' off:Nat} (hp:∀ (a:Addr) w,(Instr.fieldAt t (.pointer (some a)) kk).run P w= .ok (.pointer (some (a.add off))) w)
    (F:Sk a n L) (he:ev L x=some (.pointer (some ⟨b,o,none⟩))) (ho:o+off=o') {w':World}:(execOp a.eval ⟨dd,.fieldAddr t x kk,ty,pos,af,g⟩).run P w'= .ok (.value (.pointer (some ⟨b,o',none⟩))) w':=by
  subst ho
  unfold execOp
  simp [F.ev he,hp,cH]
end
theorem vD {P:Program} {t:TypeId} {fs:Array Field} {f:Field} {k s off:Nat} (ht:P.underlying t=some (.struct fs)) (hk:fs[k]?=some f) (hs:∀ w,(sizeOf f.type).run P w= .ok s w) (h0:s≠0) (ho:f.offset=off) (a:Addr) (w:World) :
    (Instr.fieldAt t (.pointer (some a)) k).run P w= .ok (.pointer (some (a.add off))) w:=by
  subst ho
  simp [Instr.fieldAt,run_underlying ht,hk,Instr.sureAddr,fieldPlace,hs,h0]
end Go.Proofs.YtgnfibiaaipibaaGreat
