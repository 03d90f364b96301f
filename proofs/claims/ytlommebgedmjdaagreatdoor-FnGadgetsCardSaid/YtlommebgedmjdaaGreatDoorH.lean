import Derived.Test.YtlommebgedmjdaaGreatDoorG
namespace Go.Proofs.YtlommebgedmjdaaGreatDoor
set_option linter.unusedVariables false
set_option linter.unusedSimpArgs false
open Go.RowKit
inductive Ctl (σ ρ:Type) where
  | go (s:σ)
  | brk (s:σ)
  | ret (r:ρ)
inductive Out (σ ρ:Type) where
  | nx (s:σ)
  | ret (r:ρ)
def ap {α:Type} (l m:List α):Option (List α):=if (l.length+m.length)*1024≤140737488355328 then some (l++m) else none
def sl {α:Type} (l:List α) (i j:Int):Option (List α):=if 0≤i∧i≤j∧j≤l.length then some ((l.take j.toNat).drop i.toNat) else none
def st {α:Type} (l:List α) (i:Int) (x:α):Option (List α):=if 0≤i∧i<l.length then some (l.set i.toNat x) else none
def vC {σ ρ:Type} (o:Option (Out σ ρ)) (k:σ→Option ρ):Option ρ:=
  match o with
  | none=>none
  | some (.nx s)=>k s
  | some (.ret r)=>some r
def xK {α β:Type} (o:Option α) (k:α→Option β):Option β:=
  match o with
  | none=>none
  | some x=>k x
def oM {α σ ρ:Type} (body:Nat→α→σ→Option (Ctl σ ρ)):List α→Nat→σ→Option (Out σ ρ)
  | [],_,s=>some (.nx s)
  | x::r,k,s=>
    match body k x s with
    | none=>none
    | some (.go s')=>oM body r (k+1) s'
    | some (.brk s')=>some (.nx s')
    | some (.ret v)=>some (.ret v)
def aY {σ ρ:Type} (body:Nat→σ→Option (Ctl σ ρ)):Nat→Nat→σ→Option (Out σ ρ)
  | 0,_,s=>some (.nx s)
  | m+1,k,s=>
    match body k s with
    | none=>none
    | some (.go s')=>aY body m (k+1) s'
    | some (.brk s')=>some (.nx s')
    | some (.ret v)=>some (.ret v)
def whl {σ ρ:Type} (body:σ→Option (Ctl σ ρ)):Nat→σ→Option (Out σ ρ)
  | 0,_=>none
  | m+1,s=>
    match body s with
    | none=>none
    | some (.go s')=>whl body m s'
    | some (.brk s')=>some (.nx s')
    | some (.ret v)=>some (.ret v)
theorem xOt {α:Type} {l m r:List α} (h:ap l m=some r):(l.length+m.length)*1024≤140737488355328∧l++m=r:=by
  unfold ap at h
  split at h
  · exact⟨by assumption,Option.some.inj h⟩
  · cases h
theorem xPd {α:Type} {l r:List α} {i j:Int} (h:sl l i j=some r):0≤i∧i≤j∧j≤l.length∧(l.take j.toNat).drop i.toNat=r:=by
  unfold sl at h
  split at h
  · rename_i h1
    exact⟨h1.1,h1.2.1,h1.2.2,Option.some.inj h⟩
  · cases h
theorem fE {α β:Type} {o:Option α} {k:α→Option β} {r:β} (h:xK o k=some r):∃ x,o=some x∧k x=some r:=by
  cases o with
  | none=>cases h
  | some x=>exact⟨x,rfl,h⟩
def xTi {σ ρ:Type} (k:σ→Option ρ) (r:ρ):Out σ ρ→Prop
  | .nx s=>k s=some r
  | .ret v=>v=r
theorem uC {σ ρ:Type} {o:Option (Out σ ρ)} {k:σ→Option ρ} {r:ρ} (h:vC o k=some r):∃ x,o=some x∧xTi k r x:=by
  cases o with
  | none=>cases h
  | some x=>
    cases x with
    | nx s=>exact⟨_,rfl,h⟩
    | ret v=>exact⟨_,rfl,Option.some.inj h⟩
def Nxt {σ ρ:Type} (k:σ→Option (Out σ ρ)) (r:Out σ ρ):Ctl σ ρ→Prop
  | .go s=>k s=some r
  | .brk s=>r= .nx s
  | .ret v=>r= .ret v
theorem xHs {α σ ρ:Type} {body:Nat→α→σ→Option (Ctl σ ρ)} {x:α} {l:List α} {k:Nat} {s:σ} {r:Out σ ρ} (h:oM body (x::l) k s=some r) :
    ∃ c,body k x s=some c∧Nxt (oM body l (k+1)) r c:=by
  unfold oM at h
  cases hb:body k x s with
  | none=>simp [hb] at h
  | some c=>
    refine⟨c,rfl,?_⟩
    cases c<;>simp only[hb] at h
    · exact h
    · exact(Option.some.inj h).symm
    · exact(Option.some.inj h).symm
theorem xHx {σ ρ:Type} {body:Nat→σ→Option (Ctl σ ρ)} {m k:Nat} {s:σ} {r:Out σ ρ} (h:aY body (m+1) k s=some r) :
    ∃ c,body k s=some c∧Nxt (aY body m (k+1)) r c:=by
  unfold aY at h
  cases hb:body k s with
  | none=>simp [hb] at h
  | some c=>
    refine⟨c,rfl,?_⟩
    cases c<;>simp only[hb] at h
    · exact h
    · exact(Option.some.inj h).symm
    · exact(Option.some.inj h).symm
theorem xQq {σ ρ:Type} {body:σ→Option (Ctl σ ρ)} {m:Nat} {s:σ} {r:Out σ ρ} (h:whl body m s=some r) :
    ∃ c m',m=m'+1∧body s=some c∧Nxt (whl body m') r c:=by
  cases m with
  | zero=>cases h
  | succ m'=>
    unfold whl at h
    cases hb:body s with
    | none=>simp [hb] at h
    | some c=>
      refine⟨c,m',rfl,rfl,?_⟩
      cases c<;>simp only[hb] at h
      · exact h
      · exact(Option.some.inj h).symm
      · exact(Option.some.inj h).symm
theorem xRy {α:Type} {l:List α} {k:Nat} (h:k≤l.length) (e:l.drop k=[]):(k:Int)=l.length:=by
  have:=congrArg List.length e
  simp at this
  omega
theorem xQy {α:Type} {l:List α} {k:Nat} {x:α} {t:List α} (e:l.drop k=x::t):k<l.length∧l[k]?=some x∧l.drop (k+1)=t:=by
  have h1:k<l.length:=by
    have:=congrArg List.length e
    simp at this
    omega
  rw[List.drop_eq_getElem_cons h1] at e
  injection e with e1 e2
  exact⟨h1,by rw[List.getElem?_eq_getElem h1,e1],e2⟩
theorem xBm {P:Program} {Q:Exit→Act→World→Prop} {a:Act} {w:World} {c:Code} (M:Act→World→Prop) (h:c.wp P (Exit.then M Q) a w) (k:∀ a w,M a w→Q .normal a w):c.wp P Q a w:=
  Code.wp_mono (fun e a w q=>by cases e<;>first | exact k _ _ q | exact q) h
theorem xYo (b:Bool):b=true∨b=false:=by cases b<;>simp
section
variable {P:Program} {ops:Array Oper} {C:World→Prop} {K:Act→Prop} {a:Act} {w:World} {n:Nat} {L:List (Nat×Value)} {rest:List Oper} {d:Nat} {ty:TypeId} {pos:String} {af:Array Edge} {g:Option (Nat×Bool)}
theorem oAn {Q:Exit→Act→World→Prop} {id:Nat} {l:List Oper} (hm:P.follows .mixedOrders=true) (hlex:Region.lexB .any l.toArray=true) (h:wpQuiet P l.toArray (fun w'=>Below w.heap.size w w') (fun a'=>∀ w',Below w.heap.size w w'→Q .normal a' w') l a):(Code.region id l.toArray true).wp P Q a w:=
  wp_region_quiet (C:=fun w'=>Below w.heap.size w w') hm hlex (Below.refl _ _).drew (by simpa using h)
theorem oCi (h:K a):wpQuiet P ops C K [] a:=h
theorem lT {op:Op} {v:Value} (F:Sk a n L) (hc:qH ops n L g d=true) (hr:∀ w,C w→(execOp a.eval ⟨some d,op,ty,pos,af,g⟩).run P w= .ok (.value v) w)
    (k:∀ a',Sk a' n ((d,v)::L)→wpQuiet P ops C K rest a'):wpQuiet P ops C K (⟨some d,op,ty,pos,af,g⟩::rest) a:=by
  unfold qH at hc
  rw[Bool.and_eq_true] at hc
  unfold wpQuiet
  rw[if_pos (iW F (o:=⟨some d,op,ty,pos,af,g⟩) hc.1)];exact⟨v,fun w hw=>by unfold Oper.quietAt;rw[hr w hw];exact⟨rfl,rfl⟩,k _ (F.put v hc.2)⟩
theorem oDg {x:Operand} {v:Value} (F:Sk a n L) (hc:qH ops n L g d=true) (e:ev L x=some v) (k:∀ a',Sk a' n ((d,v)::L)→wpQuiet P ops C K rest a'):wpQuiet P ops C K (⟨some d,.move x,ty,pos,af,g⟩::rest) a:=lT F hc (fun w l=>sZ F e) k
theorem oBe {x:Operand} {v:Value} (F:Sk a n L) (hc:qH ops n L g d=true) (e:ev L x=some v) (k:∀ a',Sk a' n ((d,v)::L)→wpQuiet P ops C K rest a'):wpQuiet P ops C K (⟨some d,.assign x,ty,pos,af,g⟩::rest) a:=lT F hc (fun w l=>xBb F e) k
theorem oAd {x:Operand} {p:Addr} (F:Sk a n L) (hc:qH ops n L g d=true) (e:ev L x=some (.pointer (some p))) (k:∀ a',Sk a' n ((d,(.pointer (some p)))::L)→wpQuiet P ops C K rest a'):wpQuiet P ops C K (⟨some d,.nilCheck x,ty,pos,af,g⟩::rest) a:=lT F hc (fun w l=>sR F e) k
theorem q_not {x:Operand} {t:TypeId} {b:Bool} (F:Sk a n L) (hc:qH ops n L g d=true) (e:ev L x=some (.bool b)) (k:∀ a',Sk a' n ((d,(.bool (!b)))::L)→wpQuiet P ops C K rest a'):wpQuiet P ops C K (⟨some d,.unOp .not t x,ty,pos,af,g⟩::rest) a:=lT F hc (fun w l=>xSj F e) k
theorem oDe {x y z:Operand} {v:Value} (F:Sk a n L) (hc:qH ops n L g d=true) (e:ev L x=some (.bool true)) (e':ev L y=some v) (k:∀ a',Sk a' n ((d,v)::L)→wpQuiet P ops C K rest a'):wpQuiet P ops C K (⟨some d,.pick x y z,ty,pos,af,g⟩::rest) a:=lT F hc (fun w l=>xJk F e e') k
theorem oDf {x y z:Operand} {v:Value} (F:Sk a n L) (hc:qH ops n L g d=true) (e:ev L x=some (.bool false)) (e':ev L z=some v) (k:∀ a',Sk a' n ((d,v)::L)→wpQuiet P ops C K rest a'):wpQuiet P ops C K (⟨some d,.pick x y z,ty,pos,af,g⟩::rest) a:=lT F hc (fun w l=>xIs F e e') k
theorem q_no {op:Op} (F:Sk a n L) (hc:gno ops L g=true) (hd:Nat.blt d n=true)
    (k:∀ a',Sk a' n ((d,undef)::L)→wpQuiet P ops C K rest a'):wpQuiet P ops C K (⟨some d,op,ty,pos,af,g⟩::rest) a:=by
  unfold wpQuiet
  rw[if_neg (by rw[pL F (o:=⟨some d,op,ty,pos,af,g⟩) hc];exact Bool.false_ne_true)];exact k _ (F.put undef hd)
theorem xSz {f:FuncId} {xs:List Operand} {at':Array TypeId} {vs:List Value} {v:Value} (F:Sk a n L) (hc:qH ops n L g d=true) (hf:∀ args w,(callFunc f args).run P w= .ok (.enter f args) w)
    (e:evs L xs=some vs) (hC:∀ w w',C w→Below w.heap.size w w'→C w') (cl:∀ w,C w→Calls P f vs.toArray w (xDj v w))
    (k:∀ a',Sk a' n ((d,v)::L)→wpQuiet P ops C K rest a') :
    wpQuiet P ops C K (⟨some d,.call ⟨.value (.func f),xs.toArray,at'⟩,ty,pos,af,g⟩::rest) a:=by
  unfold qH at hc
  rw[Bool.and_eq_true] at hc
  unfold wpQuiet
  rw[if_pos (iW F (o:=⟨some d,.call ⟨.value (.func f),xs.toArray,at'⟩,ty,pos,af,g⟩) hc.1)];refine⟨v,fun w hw=>?_,k _ (F.put v hc.2)⟩
  have hr:(execOp a.eval ⟨some d,.call ⟨.value (.func f),xs.toArray,at'⟩,ty,pos,af,g⟩).run P w= .ok (.enter f vs.toArray) w:=by
    have h1:execOp a.eval ⟨some d,.call ⟨.value (.func f),xs.toArray,at'⟩,ty,pos,af,g⟩=callFunc f (#[]++xs.toArray.map a.eval ++ #[]):=rfl;rw[h1,List.map_toArray,F.evs e,Array.append_empty,Array.empty_append];exact hf _ _
  unfold Oper.quietAt
  rw[hr];exact⟨rfl,(cl w hw).mono fun e w'' h=>⟨h.1,hC _ _ hw h.2⟩⟩
end
end Go.Proofs.YtlommebgedmjdaaGreatDoor
