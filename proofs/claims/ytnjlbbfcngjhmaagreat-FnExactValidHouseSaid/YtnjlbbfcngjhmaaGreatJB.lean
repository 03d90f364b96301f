import Derived.ArgAppend
import Derived.Test.YtnjlbbfcngjhmaaGreatNE
namespace Go.Proofs.YtnjlbbfcngjhmaaGreat
set_option linter.unusedVariables false
set_option linter.unusedSimpArgs false
section
open Go.RowKit
variable {z:Int} {x:Operand}
def nn (x:Int):Option Int:=if 0<=x then some x else none
theorem wF {x:Int} (h:nn x=some z):0<=x/\z=x:=by
 unfold nn at h
 split at h
 ·exact⟨by assumption,(Option.some.inj h).symm⟩
 ·cases h
theorem oFf {x:Int} (h:0<=x):nn x=some x:=if_pos h
theorem xYa (h:xL z) (h0:0<=z):xL (z / 2):=by
 have h1:z<=9223372036854775807:=h.2
 show -9223372036854775808<=z / 2/\z / 2<=9223372036854775807
 omega
section
variable {X:List Nat} {N M:Nat->Prop} {w0 w w':Wd} {L:List As}
theorem Bk.to {N:Nat->Prop} {w1 w:Wd} {b:Nat} {cs:List Vl} {T:Ty} (h:Bk N w1 b cs T) (s:Sm N w1 w):Bk N w b cs T:=⟨(s.blk b h.2).trans h.1,h.2⟩
def BkV (b:Nat) (cs:List Vl) (T:Ty):VR Unit:=λw _ _ bs=>nA w b cs.toArray T/\bs=[b]
instance {b:Nat} {cs:List Vl} {T:Ty}:VF (BkV b cs T):=⟨λh hs=>⟨(hs b (by rw[h.2];simp)).trans h.1,h.2⟩⟩
theorem Bk.lf {M N:Nat->Prop} {u w:Wd} {b:Nat} {cs:List Vl} {T:Ty} (h:Bk M u b cs T) (e:Lf M u N w):Bk N w b cs T:=by
 obtain⟨bs,⟨⟨h1,rfl⟩,_⟩,h2⟩:=e (V:=BkV b cs T) (v:=.bool true) (x:=()) ⟨[b],⟨⟨h.1,rfl⟩,λc hc=>by rw[Bd] at hc;subst hc;exact h.1.lt⟩,λc hc=>by rw[Bd] at hc;subst hc;exact h.2⟩;exact⟨h1,h2 b (by simp)⟩
theorem Sep.rob {α:Type} {V:VR α} [hV:VF V] {v:Vl} {x:α} (H:Sep X N w0 w L) (h:Bo N w0 V v x):Sep X N w0 w (Go.Proofs.YtnjlbbfcngjhmaaGreat.ro N (V:=V) v x::L):=by
 obtain⟨bs,h1,h2⟩:=H.u h;exact H.push (Below.refl _ _) (A:=Go.Proofs.YtnjlbbfcngjhmaaGreat.ro N (V:=V) v x) (Y0:=[]) ⟨bs,h1,λc hc=>.inr (h2 c hc)⟩ n1 (λ_ h=>nomatch h)
theorem Sep.rwo {α:Type} {sz:Nat} {R:ER α} [hR:FrC sz R] {E:Ty} {v:Vl} {l:List α} (H:Sep X N w0 w (rw M sz R E v l::L)):Sep X N w0 w (Go.Proofs.YtnjlbbfcngjhmaaGreat.ro M (V:=Sl sz R) v l::L):=by
 obtain⟨Y,⟨rb,ib,r1,r2,r3⟩,hN,hY,tr⟩:=H.hd;exact tr (Z:=[]) (λ_ h=>nomatch h) (B5.refl _ _) (B:=Go.Proofs.YtnjlbbfcngjhmaaGreat.ro M (V:=Sl sz R) v l) (Y1:=Y) ⟨rb++ib,r1.rd,λc hc=>(Ar.1 hc).elim (λh=>.inl (r2 c h)) (r3 c)⟩ hN (λc hc=>⟨.inl hc,(hY c hc).1⟩)
theorem Sep.rok {α:Type} {V:VR α} [hV:VF V] {v:Vl} {x:α} (H:Sep X N w0 w (Go.Proofs.YtnjlbbfcngjhmaaGreat.ro M (V:=V) v x::L)):Sep X N w0 w (Go.Proofs.YtnjlbbfcngjhmaaGreat.ro N (V:=V) v x::L):=by
 obtain⟨Y,⟨bs,h1,h2⟩,hN,hY,tr⟩:=H.hd;exact tr (Z:=[]) (λ_ h=>nomatch h) (B5.refl _ _) (B:=Go.Proofs.YtnjlbbfcngjhmaaGreat.ro N (V:=V) v x) (Y1:=Y) ⟨bs,h1,λc hc=>(h2 c hc).imp id (hN c)⟩ n1 (λc hc=>⟨.inl hc,(hY c hc).1⟩)
end
section
variable {P:Program} {ops:Array Oper} {Q:Exit->Act->Wd->Prop} {a:Act} {w w0 w1:Wd} {n:Nat} {L:List (Nat×Vl)} {rest:List Oper} {d:Nat} {ty:Ty} {pos:String} {af:Array Edge} {g:Option (Nat×Bool)} {M M' N:Nat->Prop} {X:List Nat} {D:List As}
theorem oEn {α:Type} {sz:Nat} {R:ER α} {y:Operand} {t t':Ty} {v:Vl} {l:List α} {e0:Ty} (ht:P.underlying t=some (.slice e0)) (F:Sk a n L) (hc:vO ops n L g d=true) (e:ev L x=some v) (e':ev L y=some (.slice none 0 0)) (h:Bo M w (Sl sz R) v l)
 (k:∀ a' (b:Bool),(b=true->l=[])->Sk a' n ((d,.bool b)::L)->wpList P ops Q rest a' w):wpList P ops Q (⟨some d,.binOp .eql t x y t',ty,pos,af,g⟩::rest) a w:=
 let ⟨_,h1,_⟩:=h;xVe ht F hc e e' h1 k
theorem oU1 {t t':Ty} {i:Int} {ut:TypeDesc} (hs:P.underlying t=some ut) (ht:P.underlying t'=some (.int .u64)) (F:Sk a n L) (hc:vO ops n L g d=true) (e:ev L x=some (.int .i64 i)) (hi:xL i) (hz:nn i=some z)
 (k:∀ a',Sk a' n ((d,.int .u64 z)::L)->wpList P ops Q rest a' w):wpList P ops Q (⟨some d,.convert t t' x,ty,pos,af,g⟩::rest) a w:=by
 obtain⟨h0,rfl⟩:=wF hz;have h1:z<=9223372036854775807:=hi.2
 have hw:IntKind.u64.wrap z=z:=by
  unfold IntKind.wrap
  simp only[show IntKind.u64.bits=64 from rfl,show IntKind.u64.signed=false from rfl];rw[Int.emod_eq_of_lt h0 (by omega)]
  simp
 refine zT F hc ?_ k
 unfold execOp
 simp [F.ev e,convert,run_underlying hs,run_underlying ht,Conv.intToInt,hw]
theorem oU2 {t t':Ty} (F:Sk a n L) (hc:vO ops n L g d=true) (e:ev L x=some (.int .u64 z))
 (k:∀ a',Sk a' n ((d,.int .u64 (z / 2))::L)->wpList P ops Q rest a' w):wpList P ops Q (⟨some d,.binOp .shr t x (.const (.int .u64 1)) t',ty,pos,af,g⟩::rest) a w:=by
 refine zT F hc ?_ k
 unfold execOp
 simp only[F.ev e];have:=shift_shr_u64 .u64 z 1 (by decide) (by decide);simp only[show(2:Int) ^ (1:Int).toNat=2 from rfl] at this;have h2:a.eval (.const (.int .u64 1))= .int .u64 1:=rfl;rw[h2]
 simp [eqGuard,binOp,this]
theorem oU3 {t t':Ty} {ut:TypeDesc} (hs:P.underlying t=some ut) (ht:P.underlying t'=some (.int .i64)) (F:Sk a n L) (hc:vO ops n L g d=true) (e:ev L x=some (.int .u64 z)) (hi:xL z) (k:∀ a',Sk a' n ((d,.int .i64 z)::L)->wpList P ops Q rest a' w):wpList P ops Q (⟨some d,.convert t t' x,ty,pos,af,g⟩::rest) a w:=by
 refine zT F hc ?_ k
 unfold execOp
 simp [F.ev e,convert,run_underlying hs,run_underlying ht,Conv.intToInt,IntWalk.i64_in _ hi]
end
section
variable {X:List Nat} {N:Nat->Prop} {w0 w:Wd} {L:List As} {β:Type} {f:β->As} {h:∀ b c,¬ (f b).N c}
end
end
section
open Go.RowKit
variable {c:Code} {cc:Operand} {r1:ResultVar}
inductive Tl (α β:Type):Type 1
  | ex {γ:Type} (f:γ->Tl α β)
  | fa (p:Prop) (i:Tl α β)
  | st (x:α) (y:β)
def Tl.all {α β:Type} (K:α->β->Prop):Tl α β->Prop | .ex f=>∀ b,(f b).all K | .fa p i=>p->i.all K | .st x y=>K x y
def Tl.any {α β:Type} (K:α->β->Prop):Tl α β->Prop | .ex f=>∃ b,(f b).any K | .fa p i=>p/\i.any K | .st x y=>K x y
abbrev Tl.v {α β:Type} (f:Vl->Tl α β):Tl α β:=.ex f
abbrev Tl.n {α β:Type} (f:Nat->Tl α β):Tl α β:=.ex f
theorem Tl.any.go {α β:Type} {K K':α->β->Prop} {G:Prop}:∀ {i:Tl α β},i.any K->i.all K'->(∀ x y,K x y->K' x y->G)->G | .ex _,⟨b,h⟩,k,f=>Tl.any.go h (k b) f | .fa _ _,⟨p,h⟩,k,f=>Tl.any.go h (k p) f | .st x y,h,k,f=>f x y h k
theorem Tl.any.map {α β:Type} {K K':α->β->Prop}:∀ {i:Tl α β},i.any K->(∀ x y,K x y->K' x y)->i.any K' | .ex _,⟨b,h⟩,f=>⟨b,Tl.any.map h f⟩ | .fa _ _,⟨p,h⟩,f=>⟨p,Tl.any.map h f⟩ | .st x y,h,f=>f x y h
theorem Tl.any.some {α β:Type} {K:α->β->Prop}:∀ {i:Tl α β},i.any K->∃ x y,K x y | .ex _,⟨_,h⟩=>Tl.any.some h | .fa _ _,⟨_,h⟩=>Tl.any.some h | .st x y,h=>⟨x,y,h⟩
theorem Tl.all.and {α β:Type} {K K':α->β->Prop}:∀ {i:Tl α β},i.all K->i.all K'->i.all (λx y=>K x y/\K' x y) | .ex _,h,k=>λb=>Tl.all.and (h b) (k b) | .fa _ _,h,k=>λp=>Tl.all.and (h p) (k p) | .st _ _,h,k=>⟨h,k⟩
structure J {ρ:Type} (n:Nat) (X:List Nat) (N:Nat->Prop) (w0:Wd) (L:List (Nat×Vl)) (D:List As) (t:Option ρ) (C:ρ->Prop) (G:Act->Wd->Prop):Prop where
  h:∀ a w,Sk a n L->Sep X N w0 w D->∀ x,t=some x->C x->G a w
def Gt (M:Nat->Prop) (w:Wd) (X:List Nat) (i:Tl Vl (List As->List As)) (e:Ending) (w':Wd):Prop:= i.any λv f=>e= .returned v/\Sep X M w w' (f [])/\∀ D,f D=f []++D
def Cq {ρ:Type} (I:ρ->Tl Vl (List As->List As)) (M:Nat->Prop) (w:Wd) (X:List Nat) (R:Ending->Wd->Prop) (x:ρ):Prop:=∀ e w',Gt M w X (I x) e w'->R e w'
def Th {σ ρ:Type} (next:σ->Option ρ) (C:ρ->Prop) (o:Out σ ρ):Prop:=∃ y,oGs next y o/\C y
def Lx {σ ρ:Type} (next:σ->Option (Out σ ρ)) (C:Out σ ρ->Prop) (c:Ctl σ ρ):Prop:=∃ y,Nxt next y c/\C y
def Lp {σ τ:Type} (next:σ->Option τ) (C:τ->Prop) (n:Nat) (X:List Nat) (N:Nat->Prop) (w0:Wd) (I:σ->Tl (List (Nat×Vl)) (List As)) (a:Act) (w:Wd):Prop:= ∃ s,(∃ y,next s=some y/\C y)/\(I s).any λS D=>Sk a n S/\Sep X N w0 w D
def Rs (P:Program) (n:Nat) (X:List Nat) (N:Nat->Prop) (w0:Wd) (L:List (Nat×Vl)) (D:List As) (r:ResultVar) (v:Vl):Prop:=∀ a w,Sk a n L->Sep X N w0 w D->(xAj a.tmps r).run P w= .ok v w
def Lv (v v1:Vl) (f:List As->List As) (D:List As):Prop:=v=v1/\∀ E,f E=D++E
theorem lv {v:Vl} {f:List As->List As} {D:List As} (h:∀ E,f E=D++E:=by intro;rfl):Lv v v f D:=⟨rfl,h⟩
def Ls (L S:List (Nat×Vl)) (D E:List As):Prop:=D=E/\sub L S
theorem ls {L S:List (Nat×Vl)} {D:List As} (h:sub L S:=by repeat (first | exact sn | refine sc rfl ?_)):Ls L S D D:=⟨rfl,h⟩
section
variable {P:Program} {ops:Array Oper} {Q Q':Exit->Act->Wd->Prop} {fn:Func} {n:Nat} {X:List Nat} {N M:Nat->Prop} {w0 w:Wd} {L L':List (Nat×Vl)} {D D':List As} {ρ σ τ α:Type} {t:Option ρ} {C:ρ->Prop} {G G' K:Act->Wd->Prop} {R:Ending->Wd->Prop} {l l':List Oper} {rest:List Oper} {d:Nat} {ty:Ty} {pos:String} {af:Array Edge} {g:Option (Nat×Bool)}
theorem jin {f:FuncId} {vs:List Vl} {I:ρ->Tl Vl (List As->List As)} (hf:P.funcs[f]?=some fn) (L:List (Nat×Vl)) (H:Sep X N w w D) (k:∀ r,J n X N w L D t (Cq I N w X (Gt N w X (I r))) (c.wp P (bodyPost P fn (Gt N w X (I r))))) (hb:fn.body=some c:=by rfl) (hn:fn.ntmps=n:=by rfl) (hl:Nat.ble vs.length n=true:=by rfl) (hL:sub (((List.range vs.length).zip vs)) L:=by repeat (first | exact sn | refine sc rfl ?_)):∀ r,t=some r->Calls P f vs.toArray w (Gt N w X (I r)):=λr hR=>xPo hf hb hn hl hL (λa F=>(k r).h a w F H r hR (λ_ _ h=>h))
theorem vM {f:FuncId} {vs:List Vl} {I:ρ->Tl Vl (List As->List As)} (hf:P.funcs[f]?=some fn) (L:List (Nat×Vl)) (hN:HN N w) (k:∀ r,J n [] N w L [] t (Cq I N w [] (Gt N w [] (I r))) (c.wp P (bodyPost P fn (Gt N w [] (I r))))) (hb:fn.body=some c:=by rfl) (hn:fn.ntmps=n:=by rfl) (hl:Nat.ble vs.length n=true:=by rfl) (hL:sub (((List.range vs.length).zip vs)) L:=by repeat (first | exact sn | refine sc rfl ?_)):∀ r,t=some r->Calls P f vs.toArray w (Gt N w [] (I r)):=jin hf L (Sep.start hN) k hb hn hl hL
theorem jB {e:Option α} {f:α->Option ρ} (k:∀ z,e=some z->J n X N w0 L D (f z) C G):J n X N w0 L D (xG e f) C G:=⟨λa w F H x h1 h2=>
 let ⟨z,h3,h4⟩:=bU h1;(k z h3).h a w F H x h4 h2⟩
theorem jbs {b:Bool} {t1 t2:Option ρ} (h1:b=true->J n X N w0 L D t1 C G) (h2:b=false->J n X N w0 L D t2 C G):J n X N w0 L D (if b then t1 else t2) C G:=⟨λa w F H x h3 h4=>by
 cases b with
 | true=>exact(h1 rfl).h a w F H x (by simpa using h3) h4
 | false=>exact(h2 rfl).h a w F H x (by simpa using h3) h4⟩
theorem jeq (i:Nat) {b c:Bool} (hb:b=c) (h:J n X N w0 ((i,.bool c)::L) D t C G) (e:sL L i=some (.bool b):=by rfl):J n X N w0 L D t C G:=⟨λa w F=>h.h a w (F.eq e (congrArg Value.bool hb))⟩
theorem fD (i:Nat) {b:Bool} {t1 t2:Option ρ} (h1:b=true->J n X N w0 ((i,.bool true)::L) D t1 C G) (h2:b=false->J n X N w0 ((i,.bool false)::L) D t2 C G) (e:sL L i=some (.bool b):=by rfl):J n X N w0 L D (if b then t1 else t2) C G:= jbs (λh=>jeq i h (h1 h) e) (λh=>jeq i h (h2 h) e)
theorem jbk {next:σ->Option (Out σ ρ)} {C:Out σ ρ->Prop} {s:σ} (h:J n X N w0 L D (some (Out.nx s)) C G):J n X N w0 L D (some (Ctl.brk s)) (Lx next C) G:=⟨λa w F H x h1 ⟨y,h2,h3⟩=>h.h a w F H y (by cases h1;exact h2 ▸ rfl) h3⟩
theorem fZ {next:σ->Option (Out σ ρ)} {C:Out σ ρ->Prop} {v:ρ} (h:J n X N w0 L D (some (Out.ret (σ:=σ) v)) C G):J n X N w0 L D (some (Ctl.ret v)) (Lx next C) G:=⟨λa w F H x h1 ⟨y,h2,h3⟩=>h.h a w F H y (by cases h1;exact h2 ▸ rfl) h3⟩
theorem fH {next:σ->Option ρ} {v:ρ} (h:J n X N w0 L D (some v) C G):J n X N w0 L D (some (Out.ret v)) (Th next C) G:=⟨λa w F H x h1 ⟨y,h2,h3⟩=>h.h a w F H y (by cases h1;exact congrArg some h2) h3⟩
theorem jif {b:Bool} {x y:Code} {t1 t2:Option ρ} (ht:b=true->J n X N w0 L D t1 C (x.wp P Q)) (hf:b=false->J n X N w0 L D t2 C (y.wp P Q)) (e:ev L cc=some (.bool b):=by rfl):J n X N w0 L D (if b then t1 else t2) C ((Code.cond cc x y).wp P Q):=⟨λa w F H r h1 h2=>by
 cases b with
 | true=>exact oBh F e ((ht rfl).h a w F H r (by simpa using h1) h2)
 | false=>exact xZv F e ((hf rfl).h a w F H r (by simpa using h1) h2)⟩
theorem xT {cc:Operand} {b:Bool} {x y:Code} {t1 t2:Option ρ} (ht:J n X N w0 L D t1 C (x.wp P Q)) (hf:J n X N w0 L D t2 C (y.wp P Q)) (e:ev L cc=some (.bool b):=by rfl):J n X N w0 L D (if b then t1 else t2) C ((Code.cond cc x y).wp P Q):=jif (λ_=>ht) (λ_=>hf) e
theorem kO {b:Bool} {x y:Code} (hb:b=true) (h:J n X N w0 L D t C (x.wp P Q)) (e:ev L cc=some (.bool b):=by rfl):J n X N w0 L D t C ((Code.cond cc x y).wp P Q):=⟨λa w F H r h1 h2=>oFk F e hb (h.h a w F H r h1 h2)⟩
theorem kJ {b:Bool} {x y:Code} (hb:b=false) (h:J n X N w0 L D t C (y.wp P Q)) (e:ev L cc=some (.bool b):=by rfl):J n X N w0 L D t C ((Code.cond cc x y).wp P Q):=⟨λa w F H r h1 h2=>xUb F e hb (h.h a w F H r h1 h2)⟩
theorem qZ {t1:Option (Out σ ρ)} {next:σ->Option ρ} (I:σ->Tl (List (Nat×Vl)) (List As)) (h:J n X N w0 L D t1 (Th next C) (c.wp P (Exit.then (Lp next C n X N w0 I) Q))) (k:∀ s,(I s).all λS E=>J n X N w0 S E (next s) C (Q .normal)):J n X N w0 L D (oZ t1 next) C (c.wp P Q):=⟨λa w F H y h1 h2=>by
 obtain⟨o,ho,hk⟩:=xKz h1
 exact oIk (Lp next C n X N w0 I) (h.h a w F H o ho ⟨y,hk,h2⟩) (λa w ⟨s,⟨y,e,hc⟩,hi⟩=>hi.go (k s) (λS E qa hJ=>hJ.h a w qa.1 qa.2 y e hc))⟩
theorem Lp.mk {next:σ->Option τ} {C:τ->Prop} {I:σ->Tl (List (Nat×Vl)) (List As)} {a:Act} {w:Wd} {s:σ} {y:τ} (F:Sk a n L) (H:Sep X N w0 w D) (e:next s=some y) (hc:C y) (h:(I s).any λS E=>Ls L S E D):Lp next C n X N w0 I a w:= ⟨s,⟨y,e,hc⟩,h.map (λS E h=>⟨F.sub h.2,h.1 ▸ H⟩)⟩
theorem jf {s:σ} {next:σ->Option ρ} {I:σ->Tl (List (Nat×Vl)) (List As)} (h:(I s).any λS E=>Ls L S E D):J n X N w0 L D (some (.nx s)) (Th next C) (Lp next C n X N w0 I):=⟨λa w F H o h1 ⟨y,h2,h3⟩=>Lp.mk F H (by cases h1;exact h2) h3 h⟩
theorem jg {s:σ} {next:σ->Option (Out σ ρ)} {C:Out σ ρ->Prop} {I:σ->Tl (List (Nat×Vl)) (List As)} (h:(I s).any λS E=>Ls L S E D):J n X N w0 L D (some (.go s)) (Lx next C) (Lp next C n X N w0 I):=⟨λa w F H o h1 ⟨y,h2,h3⟩=>Lp.mk F H (by cases h1;exact h2) h3 h⟩
theorem jl {body:Nat->α->σ->Option (Ctl σ ρ)} {l:List α} {s0:σ} {C:Out σ ρ->Prop} (I:Nat->σ->Tl (List (Nat×Vl)) (List As)) (h0:(I 0 s0).any λS E=>Ls L S E D) (hn:∀ (k:Nat) s K,(k:Int)=l.length->(I k s).all λS E=>J n X N w0 S E (some (.nx s)) C (c.wp P (Exit.then K Q))) (hc:∀ (k:Nat) x s,k<l.length->ix l (k:Int)=some x->(I k s).all λS E=>J n X N w0 S E (body k x s) (Lx (oM body (l.drop (k+1)) (k+1)) C) (c.wp P (Exit.then (Lp (oM body (l.drop (k+1)) (k+1)) C n X N w0 (I (k+1))) Q))) : J n X N w0 L D (oM body l 0 s0) C ((Code.loop c).wp P Q):=⟨λa w F H y h1 h2=>by
 refine xPv (λg a w=>∃ k,k+g=l.length/\Lp (oM body (l.drop k) k) C n X N w0 (I k) a w) l.length ⟨0,Bj _,Lp.mk F H (by simpa using h1) h2 h0⟩ ?_
 rintro g a w ⟨k,hk,s,⟨y,e,hC⟩,hi⟩
 cases g with
 | zero=>
  have hd:l.drop k=[]:=Cp (by omega);rw[hd] at e;exact hi.go (hn k s _ (by omega)) (λS E qa hJ=>hJ.h a w qa.1 qa.2 y e hC)
 | succ g=>
  have qc:k<l.length:=by omega
  rw[Br qc] at e;obtain⟨c1,e1,e2⟩:=xWc e;refine Code.wp_mono (λex a w q=>?_) (hi.go (hc k l[k] s qc (oHm (Aa qc))) (λS E qa hJ=>hJ.h a w qa.1 qa.2 c1 e1 ⟨y,e2,hC⟩))
  cases ex with
  | normal=>exact⟨g,Nat.lt_succ_self _,k+1,by omega,q⟩
  | _=>exact q⟩
theorem jc {body:Nat->σ->Option (Ctl σ ρ)} {m:Nat} {s0:σ} {C:Out σ ρ->Prop} (I:Nat->σ->Tl (List (Nat×Vl)) (List As)) (h0:(I 0 s0).any λS E=>Ls L S E D) (hn:∀ k s K,k+0=m->(I k s).all λS E=>J n X N w0 S E (some (.nx s)) C (c.wp P (Exit.then K Q))) (hc:∀ g k s,k+(g+1)=m->(I k s).all λS E=>J n X N w0 S E (body k s) (Lx (qM body g (k+1)) C) (c.wp P (Exit.then (Lp (qM body g (k+1)) C n X N w0 (I (k+1))) Q))) : J n X N w0 L D (qM body m 0 s0) C ((Code.loop c).wp P Q):=⟨λa w F H y h1 h2=>by
 refine xPv (λg a w=>∃ k,k+g=m/\Lp (qM body g k) C n X N w0 (I k) a w) m ⟨0,Bj _,Lp.mk F H h1 h2 h0⟩ ?_
 rintro g a w ⟨k,hk,s,⟨y,e,hC⟩,hi⟩
 cases g with
 | zero=>exact hi.go (hn k s _ hk) (λS E qa hJ=>hJ.h a w qa.1 qa.2 y e hC)
 | succ g=>
  obtain⟨c1,e1,e2⟩:=xWs e;refine Code.wp_mono (λex a w q=>?_) (hi.go (hc g k s hk) (λS E qa hJ=>hJ.h a w qa.1 qa.2 c1 e1 ⟨y,e2,hC⟩))
  cases ex with
  | normal=>exact⟨g,Nat.lt_succ_self _,k+1,by omega,q⟩
  | _=>exact q⟩
theorem jw {body:σ->Option (Ctl σ ρ)} {m:Nat} {s0:σ} {C:Out σ ρ->Prop} (I:σ->Tl (List (Nat×Vl)) (List As)) (h0:(I s0).any λS E=>Ls L S E D) (hc:∀ g s,(I s).all λS E=>J n X N w0 S E (body s) (Lx (mL body g) C) (c.wp P (Exit.then (Lp (mL body g) C n X N w0 I) Q))) : J n X N w0 L D (mL body m s0) C ((Code.loop c).wp P Q):=⟨λa w F H y h1 h2=>by
 refine xPv (λg a w=>Lp (mL body g) C n X N w0 I a w) m (Lp.mk F H h1 h2 h0) ?_
 rintro g a w ⟨s,⟨y,e,hC⟩,hi⟩
 obtain⟨c1,m',rfl,e1,e2⟩:=xWj e;refine Code.wp_mono (λex a w q=>?_) (hi.go (hc m' s) (λS E qa hJ=>hJ.h a w qa.1 qa.2 c1 e1 ⟨y,e2,hC⟩))
 cases ex with
 | normal=>exact⟨m',Nat.lt_succ_self _,q⟩
 | _=>exact q⟩
theorem rt {i:Nat} {v:Vl} (e:sL L i=some v):Rs P n X N w0 L D (.tmp i) v:=λ_ _ F _=>oKt F e
theorem j0 {e:ρ} {I:ρ->Tl Vl (List As->List As)} (h:(I e).any λv f=>Lv v (.tuple #[]) f D) (hr:fn.results = #[]:=by rfl):J n X N w0 L D (some e) (Cq I N w0 X R) (bodyPost P fn R .ret):=⟨λa w F H x hx hc=>by
 cases hx
 exact bodyPost_ret (results_none hr _ _ _) F.d (hc _ _ (h.map (λv f h=>⟨congrArg _ h.1.symm,by rw[h.2,Cd];exact H,λE=>by rw[h.2,h.2,Cd]⟩)))⟩
theorem j1 {e:ρ} {I:ρ->Tl Vl (List As->List As)} {v1:Vl} (h1:Rs P n X N w0 L D r1 v1) (h:(I e).any λv f=>Lv v v1 f D) (hr:fn.results = #[r1]:=by rfl):J n X N w0 L D (some e) (Cq I N w0 X R) (bodyPost P fn R .ret):=⟨λa w F H x hx hc=>by
 cases hx
 exact xPd F hr (h1 a w F H) (hc _ _ (h.map (λv f h=>⟨congrArg _ h.1.symm,by rw[h.2,Cd];exact H,λE=>by rw[h.2,h.2,Cd]⟩)))⟩
theorem j2 {e:ρ} {I:ρ->Tl Vl (List As->List As)} {r2:ResultVar} {v1 v2:Vl} (h1:Rs P n X N w0 L D r1 v1) (h2:Rs P n X N w0 L D r2 v2) (h:(I e).any λv f=>Lv v (.tuple #[v1,v2]) f D) (hr:fn.results = #[r1,r2]:=by rfl):J n X N w0 L D (some e) (Cq I N w0 X R) (bodyPost P fn R .ret):=⟨λa w F H x hx hc=>by
 cases hx
 exact xXy F hr (h1 a w F H) (h2 a w F H) (hc _ _ (h.map (λv f h=>⟨congrArg _ h.1.symm,by rw[h.2,Cd];exact H,λE=>by rw[h.2,h.2,Cd]⟩)))⟩
theorem j3 {e:ρ} {I:ρ->Tl Vl (List As->List As)} {r2 r3:ResultVar} {v1 v2 v3:Vl} (h1:Rs P n X N w0 L D r1 v1) (h2:Rs P n X N w0 L D r2 v2) (h3:Rs P n X N w0 L D r3 v3) (h:(I e).any λv f=>Lv v (.tuple #[v1,v2,v3]) f D) (hr:fn.results = #[r1,r2,r3]:=by rfl):J n X N w0 L D (some e) (Cq I N w0 X R) (bodyPost P fn R .ret):=⟨λa w F H x hx hc=>by
 cases hx
 exact xYe F hr (h1 a w F H) (h2 a w F H) (h3 a w F H) (hc _ _ (h.map (λv f h=>⟨congrArg _ h.1.symm,by rw[h.2,Cd];exact H,λE=>by rw[h.2,h.2,Cd]⟩)))⟩
theorem jh {X':List Nat} {N':Nat->Prop} {w1:Wd} (f:∀ {w},Sep X N w0 w D->Sep X' N' w1 w D') (h:J n X' N' w1 L D' t C G):J n X N w0 L D t C G:=⟨λa w F H=>h.h a w F (f H)⟩
theorem js (is:List Nat) (e:fS D is=some D') (h:J n X N w0 L D' t C G) (hn:xLx is=true:=by rfl):J n X N w0 L D t C G:=⟨λa w F H=>h.h a w F (H.s is e hn)⟩
theorem jA (k:Nat) (e:sJ ops n k L l=some (L',l')) (h:J n X N w0 L' D t C (wpList P ops Q l')):J n X N w0 L D t C (wpList P ops Q l):=⟨λa w F H x h1 h2=>xWm k F e (λa F=>h.h a w F H x h1 h2)⟩
theorem jo (e:sJ ops n 1 L l=some (L',l')) (h:J n X N w0 L' D t C (wpList P ops Q l')):J n X N w0 L D t C (wpList P ops Q l):=jA 1 e h
end
end
section
open Go.RowKit
variable {α:Type} {R:ER α} {x:Operand} {y:Operand}
theorem uP (L vs:List Vl) (o q:Nat) (h:o+vs.length<=L.length):(L.take o++vs++L.drop (o+vs.length))[q]?=if o<=q/\q<o+vs.length then vs[q - o]? else L[q]?:=by
 by_cases h1:q<o
 ·rw[if_neg (by omega),Df,Bs (by rw[Bc];omega),Be,if_pos h1]
 ·by_cases h2:q<o+vs.length
  ·rw[if_pos ⟨by omega,h2⟩,Bs (by rw[Aq,Bc];omega),Bb (by rw[Bc];omega),Bc,Eu (by omega)]
  ·rw[if_neg (by omega),Bb (by rw[Aq,Bc];omega),Dr,Aq,Bc,Eu (by omega)]
   congr 1
   omega
def RPO (v:Vl) (sz i f:Nat) (p:Vl):Prop:=∃ g m c,v= .slice (some ⟨g,0,none⟩) m c/\p= .pointer (some ⟨g,i*sz+f,none⟩)
theorem RPt.o {v p:Vl} {sz i:Nat} (h:RPt v sz i p):RPO v sz i 0 p:=h
def xYx (sz:Nat) (R:ER α) (w:Wd) (f:Nat) (vs:List Vl) (y z:α) (bs:List Nat):Prop:= ∀ (old h:Nat->Option Vl) (bi:List Nat),R w old y bi->(∀ j,j<sz->h j=if f<=j/\j<f+vs.length then vs[j - f]? else old j)->∃ bn,R w h z bn/\∀ c∈bn,c∈bi∨c∈bs
theorem xYx.whole {sz:Nat} [hR:FrC sz R] {w:Wd} {vs:List Vl} {y z:α} {bs:List Nat} (h:El sz R w (.agg vs.toArray) z bs):vs.length=sz/\xYx sz R w 0 vs y z bs:=by
 have hn:vs.length=sz:=by simpa [Value.cells] using h.n
 refine⟨hn,λold g bi hr hg=>⟨bs,hR.fr _ _ _ _ _ _ h.r (λ_ _=>rfl) (λj hj=>?_),λc hc=>.inr hc⟩⟩;rw[hg j hj,if_pos ⟨Dc _,by omega⟩]
 simp [Value.cells]
theorem Row.turn {sz:Nat} [hR:FrC sz R] {E:Ty} {B:Nat} {w:Wd} {v p:Vl} {vs:List Vl} {l:List α} {rb ib bs:List Nat} {i f:Nat} {y z:α} (A:Row sz R E B w v l rb ib) (hp:RPO v sz i f p) (hy:l[i]?=some y) (hf:f+vs.length<=sz) (hT:xYx sz R w f vs y z bs) (hm:zW bs w) (hd:Dj rb bs) :
 ∃ g arr,p= .pointer (some ⟨g,i*sz+f,none⟩)/\rb=[g]/\nA w g arr E/\i*sz+f+vs.length<=arr.size ∧
  (∀ {w':Wd},nA w' g (arr.toList.take (i*sz+f)++vs++arr.toList.drop (i*sz+f+vs.length)).toArray E->B5 [g] w w'->∃ ib',Row sz R E B w' v (l.set i z) rb ib'/\∀ c∈ib',c∈ib∨c∈bs):=by
 obtain⟨g,m,c,rfl,rfl⟩:=hp;have hi:i<l.length:=(Ac.1 hy).1;obtain⟨xs,bss,ho,hl,qh,he⟩:=A.row;have hrb:=A.hrb
 simp [uE,Value.ownBlock] at hrb
 subst hrb
 rcases ho.2 with ⟨h,_⟩ | ⟨g3,cap,cur,h,h2,h3,h4,h5,h6,h7⟩
 ·cases h
 simp only[Value.slice.injEq,Option.some.injEq,Addr.mk.injEq,and_true] at h;obtain⟨rfl,rfl,rfl⟩:=h;have qi:=ho.1
 have hmul:i*sz+sz<=l.length*sz:=by have:=Bf sz (show i+1<=l.length from hi);rw[Ct] at this;omega
 have hcur:l.length*sz<=cur.size:=by
  have:=congrArg List.length h7;rw[Bc] at this
  simp at this
  omega
 have hK:nA w g cur E:=h3;refine⟨g,cur,rfl,rfl,hK,by omega,λ{w'} K' hO=>?_⟩;have qj:∀ c,c∈ib->c≠g:=λc hc e=>A.dj g (by simp) (e ▸ hc);have qp:∀ c,c∈bs->c≠g:=λc hc e=>hd g (by simp) (e ▸ hc);have hcl:cur.toList.length=cur.size:=Array.length_toList
 have qk:i<bss.length:=by rw[hl];exact hi
 obtain⟨bn,ql,qm⟩:=hT (λj=>xs[i*sz+j]?) (λj=>(xs.take (i*sz+f)++vs++xs.drop (i*sz+f+vs.length))[i*sz+j]?) bss[i] (he i y _ hy (Aa qk)) (λj hj=>by
  rw[uP xs vs _ _ (by omega)]
  by_cases hq:f<=j/\j<f+vs.length
  ·rw[if_pos hq,if_pos (by omega)]
   congr 1
   omega
  ·rw[if_neg hq,if_neg (by omega)])
 have qa:∀ c∈bn,c∈ib∨c∈bs:=λc hc=>(qm c hc).imp (λh=>by rw[<- qh];exact Bl.2 ⟨_,Bn qk,h⟩) id;have qd:∀ c∈bn,c<w.heap.size/\c≠g:=λc hc=>(qa c hc).elim (λh=>⟨A.mem c h,qj c h⟩) (λh=>⟨hm c h,qp c h⟩)
 have qc:∀ c∈(bss.set i bn).flatten,c∈ib∨c∈bs:=λc hc=>by
  rcases dR hc with h | h
  ·rw[qh] at h;exact .inl h
  ·exact qa c h
 refine⟨(bss.set i bn).flatten,⟨⟨xs.take (i*sz+f)++vs++xs.drop (i*sz+f+vs.length),bss.set i bn,⟨by simp [qi];omega,.inr ⟨g,c,_,by simp,h2,K',?_,h5,?_,?_⟩⟩,by simp [hl],rfl,λj y' bj qg qe=>?_⟩,rfl,λc hc=>?_,λb hb qq=>?_⟩,qc⟩
 ·simpa using h4
 ·simp only[Ew,Aq,Bc,Dk]
  omega
 ·apply Cs
  intro q;rw[Be,Cn];simp only[];rw[uP _ vs _ _ (by omega),uP _ vs _ _ (by omega),<- h7]
  by_cases h1:q<l.length*sz
  ·rw[if_pos h1,Be,if_pos h1]
  ·rw[if_neg h1,if_neg (by omega),Be,if_neg h1]
 ·by_cases qn:j=i
  ·subst qn
   rw[Al hi] at qg;rw[Al qk] at qe
   cases qg
   cases qe
   exact hR.fr _ _ _ _ _ _ ql (λc hc=>hO.block c (qd c hc).1 (by simpa using (qd c hc).2)) (λq hq=>rfl)
  ·rw[Aj (λe=>qn e.symm)] at qg qe
   refine hR.fr _ _ _ _ _ _ (he j y' bj qg qe) (λc hc=>?_) (λq hq=>?_)
   ·have qf:c∈ib:=by rw[<- qh];exact Bl.2 ⟨bj,Ae qe,hc⟩
    exact hO.block c (A.mem c qf) (by simpa using qj c qf)
   ·rw[uP xs vs _ _ (by omega),if_neg]
    intro hh
    rcases Nat.lt_or_gt_of_ne qn with qo | qo
    ·have:=Bf sz (show j+1<=i from qo)
     rw[Ct] at this
     omega
    ·have:=Bf sz (show i+1<=j from qo)
     rw[Ct] at this
     omega
 ·exact At ((qc c hc).elim (A.mem c) (hm c)) hO.size
 ·rw[Bd] at hb
  subst hb
  rcases qc _ qq with h | h
  ·exact qj _ h rfl
  ·exact qp _ h rfl
section
variable {P:Program} {ops:Array Oper} {Q:Exit->Act->Wd->Prop} {a:Act} {w w0 w1:Wd} {n:Nat} {L:List (Nat×Vl)} {rest:List Oper} {d:Nat} {ty:Ty} {pos:String} {af:Array Edge} {g:Option (Nat×Bool)} {M N N1:Nat->Prop} {X:List Nat} {D:List As} {A:As}
def Stv (P:Program) (t:Ty) (u:Vl) (vs:List Vl):Prop:=(∀ w,(sizeOf t).run P w= .ok vs.length w)/\(u= .agg vs.toArray/\∀ q∈vs,q.oneCell'=true)∨(∀ w,(sizeOf t).run P w= .ok 1 w)/\vs=[u]/\u.oneCell'=true
theorem xVz {t:Ty} {b o:Nat} {u:Vl} {vs:List Vl} {arr:Array Vl} {T:Ty} (F:Sk a n L) (hc:gok ops L g=true) (he:ev L x=some (.pointer (some ⟨b,o,none⟩))) (qc:ev L y=some u) (hu:Stv P t u vs) (h:nA w b arr T) (ho:o+vs.length<=arr.size)
 (k:∀ w',nA w' b (arr.toList.take o++vs++arr.toList.drop (o+vs.length)).toArray T->B5 [b] w w'->wpList P ops Q rest a w'):wpList P ops Q (⟨none,.store t x y,ty,pos,af,g⟩::rest) a w:=by
 rcases hu with ⟨qa,rfl,hv⟩ | ⟨qa,rfl,hv⟩
 ·exact xNm qa F hc he qc h hv ho rfl k
 ·simp only[Ak] at ho k
  refine xKq (arr':=(arr.toList.take o++[u]++arr.toList.drop (o+1)).toArray) qa F hc he qc h hv (by omega) ?_ k
  apply Array.ext_getElem?
  intro q;have hs:=uP arr.toList [u] o q (by simp;omega);simp only[Ak] at hs;rw[<- Dp,<- Dp];simp only[Array.toList_setIfInBounds];rw[hs]
  by_cases hq:q=o
  ·subst hq
   simp [show q<arr.size by omega]
  ·rw[if_neg (by omega),Aj (by omega)]
def Tn (N:Nat->Prop) (w:Wd) (sz:Nat) (R:ER α) (f:Nat) (vs:List Vl) (y z:α):Prop:=∃ bs,xYx sz R w f vs y z bs/\zW bs w/\(∀ c∈bs,N c)/\f+vs.length<=sz
theorem Eo.tn {sz:Nat} [hR:FrC sz R] {vs:List Vl} {y z:α} (h:Eo N w sz R (.agg vs.toArray) z):Tn N w sz R 0 vs y z:=
 let ⟨bs,h1,h2⟩:=h;let ⟨h3,h4⟩:=xYx.whole h1;⟨bs,h4,h1.m,h2,by omega⟩
theorem oSX {sz:Nat} [hR:FrC sz R] {t E:Ty} {v p q:Vl} {vs:List Vl} {l l':List α} {i f:Nat} {u z:α}
 (F:Sk a n L) (hc:gok ops L g=true) (hx:ev L x=some p) (hy:ev L y=some q) (hq:Stv P t q vs) (H:Sep X N w0 w (rw N1 sz R E v l::A::D)) (hp:RPO v sz i f p) (hi:l[i]?=some u) (hA:∀ c,A.N c->N1 c) (hz:∀ {N':Nat->Prop},(∀ c,N1 c->N' c)->Rdg N' w A->Tn N' w sz R f vs u z) (hl:l.set i z=l')
 (k:∀ w',Sep X N w0 w' (rw N1 sz R E v l'::D)->wpList P ops Q rest a w'):wpList P ops Q (⟨none,.store t x y,ty,pos,af,g⟩::rest) a w:=by
 obtain⟨Y,⟨Y1,Y2,⟨rb,ib,r1,r2,r3⟩,hP,dj,y1,y2⟩,hN,hY,tr⟩:=H.mg.hd;have qc:∀ c,N1 c->N c:=λc hc=>hN c (.inl hc);obtain⟨bs,h1,hm,h2,hf⟩:=hz (N':=λc=>c∈Y2∨N1 c) (λc hc=>.inr hc) ⟨Y2,hP,λc hc=>.inl hc,λc hc=>.inr (hA c hc)⟩;subst hl
 obtain⟨g2,arr,rfl,rfl,hK,qa,turn⟩:=r1.turn hp hi hf h1 hm (λc hc qd=>by
  rcases h2 c qd with h | h
  ·exact dj c (r2 c hc) h
  ·exact(hY c (y1 c (r2 c hc))).2 (qc c h))
 refine xVz F hc hx hy hq hK qa (λw' K' lo=>?_);obtain⟨ib',q,hs⟩:=turn K' lo;refine k w' (tr (Z:=[g2]) (λc hc=>y1 c (r2 c hc)) lo (B:=rw N1 sz R E v (l.set i z)) (Y1:=Y) ⟨_,ib',q,λc hc=>y1 c (r2 c hc),λc hc=>?_⟩ qc (λc hc=>⟨.inl hc,At (hY c hc).1 lo.size⟩))
 rcases hs c hc with h | h
 ·exact(r3 c h).imp (y1 c) id
 ·exact(h2 c h).imp (y2 c) id
end
section
variable {P:Program} {ops:Array Oper} {Q:Exit->Act->Wd->Prop} {a:Act} {w w0 w1:Wd} {n:Nat} {L:List (Nat×Vl)} {rest:List Oper} {d:Nat} {dd:Option Tmp} {ty:Ty} {pos:String} {af:Array Edge} {g:Option (Nat×Bool)} {M N N1:Nat->Prop} {X:List Nat} {D:List As} {A:As}
theorem oKi {ts:Array Ty} {i j:Int} (F:Sk a n L) (e:ev L x=some (.int .i64 i)) (e':ev L y=some (.int .i64 j)) {w':Wd} : (execOp a.eval ⟨dd,.call ⟨.builtin .min,#[x,y],ts⟩,ty,pos,af,g⟩).run P w'= .ok (.value (.int .i64 (if j<i then j else i))) w':=by
 rw[BigFrame.execOp_builtin,BigFrame.builtin_min];simp only[Di,Da,Ep,F.ev e,F.ev e']
 simp [Builtin.min_,Builtin.min2]
 try (split<;>rfl)
theorem oKo {ts:Array Ty} {i j:Int} (F:Sk a n L) (hc:vO ops n L g d=true) (e:ev L x=some (.int .i64 i)) (e':ev L y=some (.int .i64 j)) (k:∀ a',Sk a' n ((d,.int .i64 (if j<i then j else i))::L)->wpList P ops Q rest a' w):wpList P ops Q (⟨some d,.call ⟨.builtin .min,#[x,y],ts⟩,ty,pos,af,g⟩::rest) a w:=zT F hc (oKi F e e') k
theorem oRtl [hR:FrC 1 R] {lo:Operand} {t E:Ty} {v:Vl} {l r:List α} {i:Int} (ht:P.underlying t=some (.slice E)) (qa:∀ w,(sizeOf E).run P w= .ok 1 w) (F:Sk a n L) (hc:vO ops n L g d=true) (hx:ev L x=some v) (qc:ev L lo=some (.int .i64 i)) (H:Sep X N w0 w D) (j:Nat) (hj:D[j]?=some (rl 1 R E v l)) (hs:sl l i (l.length:Int)=some r) (k:∀ a' p,RTl v l.length i.toNat p->Sk a' n ((d,p)::L)->wpList P ops Q rest a' w):wpList P ops Q (⟨some d,.slice t x (some lo) none none,ty,pos,af,g⟩::rest) a w:=by
 obtain⟨Y,⟨rb,ib,r1,_,r2,r3⟩,hY,hN⟩:=H.g j hj;exact oCs ht qa F hc hx qc r1 hs k
theorem oRcl {t E:Ty} {v p:Vl} {l:List Int} {i:Nat} (ht:P.underlying t=some (.slice E)) (hv:∀ w,(zeroValue E).run P w= .ok (.int .i64 0) w) (F:Sk a n L) (hc:gok ops L g=true) (hx:ev L x=some p) (H:Sep X N w0 w (rl 1 xF E v l::D)) (T:RTl v l.length i p) (k:∀ w',Sep X N w0 w' (rl 1 xF E v (l.take i++List.replicate (l.length - i) 0)::D)->wpList P ops Q rest a w'):wpList P ops Q (⟨none,.call ⟨.builtin .clear,#[x],#[t]⟩,ty,pos,af,g⟩::rest) a w:=by
 obtain⟨Y,⟨rb,ib,r1,ho,r2,r3⟩,hN,hY,tr⟩:=H.hd;obtain rfl:=xBo r1;exact oAw ht hv F hc hx r1 T (λw' q lo _=>k w' (tr (Z:=rb) r2 lo (B:=rl 1 xF E v _) (Y1:=Y) ⟨rb,[],q,Own.nil _ _,r2,λ_ h=>nomatch h⟩ n0 (λc hc=>⟨.inl hc,At (hY c hc).1 lo.size⟩)))
theorem oEz {sz:Nat} {t t':Ty} {v:Vl} {l:List α} {e0:Ty} (ht:P.underlying t=some (.slice e0)) (F:Sk a n L) (hc:vO ops n L g d=true) (e:ev L x=some v) (e':ev L y=some (.slice none 0 0)) (h:Bo M w (Sl sz R) v l) (hz:l=[]->v= .slice none 0 0)
 (k:∀ a',Sk a' n ((d,.bool l.isEmpty)::L)->wpList P ops Q rest a' w):wpList P ops Q (⟨some d,.binOp .eql t x y t',ty,pos,af,g⟩::rest) a w:=
 let ⟨_,h1,_⟩:=h;oBg ht F hc e e' h1 hz k
end
theorem rN {l:List α} {i:Int} {y:α} (h:ix l i=some y):l[i.toNat]?=some y:=(aE h).2
section
variable {X:List Nat} {N M:Nat->Prop} {w0 w:Wd} {L:List As} {A B C:As}
theorem Sep.up {sz:Nat} [hR:FrC sz R] {E:Ty} {v:Vl} {l:List α} (H:Sep X N w0 w (rw M sz R E v l::L)) (h:∀ c,M c->N c):Sep X N w0 w (rw N sz R E v l::L):=by
 obtain⟨Y,⟨rb,ib,r1,r2,r3⟩,hN,hY,tr⟩:=H.hd;exact tr (Z:=[]) (λ_ h=>nomatch h) (B5.refl _ _) (B:=rw N sz R E v l) (Y1:=Y) ⟨rb,ib,r1,r2,λc hc=>(r3 c hc).imp id (h c)⟩ n1 (λc hc=>⟨.inl hc,(hY c hc).1⟩)
theorem Sep.upt {M':Nat->Prop} {sz:Nat} [hR:FrC sz R] {E:Ty} {v:Vl} {l:List α} (H:Sep X N w0 w (rw M sz R E v l::L)) (h:∀ c,M c->M' c) (h':∀ c,M' c->N c):Sep X N w0 w (rw M' sz R E v l::L):=by
 obtain⟨Y,⟨rb,ib,r1,r2,r3⟩,hN,hY,tr⟩:=H.hd;exact tr (Z:=[]) (λ_ h=>nomatch h) (B5.refl _ _) (B:=rw M' sz R E v l) (Y1:=Y) ⟨rb,ib,r1,r2,λc hc=>(r3 c hc).imp id (h c)⟩ h' (λc hc=>⟨.inl hc,(hY c hc).1⟩)
theorem Sep.mg2 (H:Sep X N w0 w (A::B::C::L)):Sep X N w0 w (A::pr B C::L):=by
 obtain⟨Y,h1,h2⟩:=H.ex;obtain⟨h3,h4,h5⟩:=h1 1 B rfl;obtain⟨h6,h7,h8⟩:=h1 2 C rfl;refine⟨H.fr,H.nb,λi=>match i with | 0=>Y 0 | 1=>Y 1++Y 2 | i+2=>Y (i+3),λi D hi=>?_,λi j hi hj qa=>?_⟩
 ·match i,hi with
  | 0,hi=>exact h1 0 D (by simpa using hi)
  | 1,hi=>
   simp at hi
   subst hi;exact⟨⟨Y 1,Y 2,h3,h6,h2 1 2 (by simp) (by simp) (by omega),λc hc=>Bt _ hc,λc hc=>Bq _ hc⟩,λc hc=>hc.elim (h4 c) (h7 c),λc hc=>(Ar.1 hc).elim (h5 c) (h8 c)⟩
  | i+2,hi=>exact h1 (i+3) D (by simpa using hi)
 ·have key:∀ k,k<(A::B::C::L).length->k≠1->k≠2->Dj (Y 1++Y 2) (Y k):=λk hk h1 h3=>Dj.app' (h2 1 k (by simp) hk (by omega)) (h2 2 k (by simp) hk (by omega))
  match i,j,hi,hj,qa with
  | 0,0,_,_,h=>exact absurd rfl h
  | 0,1,_,_,_=>exact(key 0 (by simp) (by omega) (by omega)).symm
  | 1,0,_,_,_=>exact key 0 (by simp) (by omega) (by omega)
  | 1,1,_,_,h=>exact absurd rfl h
  | 0,j+2,_,hj,_=>exact h2 0 (j+3) (by simp) (by simpa using hj) (by omega)
  | 1,j+2,_,hj,_=>exact key (j+3) (by simpa using hj) (by omega) (by omega)
  | i+2,0,hi,_,_=>exact h2 (i+3) 0 (by simpa using hi) (by simp) (by omega)
  | i+2,1,hi,_,_=>exact(key (i+3) (by simpa using hi) (by omega) (by omega)).symm
  | i+2,j+2,hi,hj,h=>exact h2 (i+3) (j+3) (by simpa using hi) (by simpa using hj) (by omega)
end
def Ab (f:(Nat->Prop)->As):Prop:=(∀ N c,(f N).N c->N c)/\∀ {M N:Nat->Prop} {w:Wd} {Y Z:List Nat},(∀ c,M c->N c∨c∈Y)->(f M).P w Z->(f N).P w (Z++Y)
theorem Ab.rw {sz:Nat} [hR:FrC sz R] {E:Ty} {v:Vl} {l:List α}:Ab (λN=>Go.Proofs.YtnjlbbfcngjhmaaGreat.rw N sz R E v l):= ⟨λ_ _ h=>h,λh ⟨rb,ib,r1,r2,r3⟩=>⟨rb,ib,r1,λc hc=>Bt _ (r2 c hc),λc hc=>(r3 c hc).elim (λh=>.inl (Bt _ h)) (λg=>(h c g).elim .inr (λg=>.inl (Bq _ g)))⟩⟩
theorem Ab.ro {V:VR α} [hV:VF V] {v:Vl} {x:α}:Ab (λN=>Go.Proofs.YtnjlbbfcngjhmaaGreat.ro N (V:=V) v x):= ⟨λ_ _ h=>h,λh ⟨bs,r1,r2⟩=>⟨bs,r1,λc hc=>(r2 c hc).elim (λh=>.inl (Bt _ h)) (λg=>(h c g).elim .inr (λg=>.inl (Bq _ g)))⟩⟩
theorem Sep.fza {X:List Nat} {N:Nat->Prop} {w0 w:Wd} {L:List As} {A:As} (H:Sep X N w0 w (A::L)):∃ (X1:List Nat) (N1:Nat->Prop),Rdg N1 w A/\Lf N w0 N1 w/\Sep X1 N1 w w L ∧
 ((∀ {w':Wd} {K:List As},Sep X1 N1 w w' K->(∀ B∈K,∀ c,B.N c->N c)->Sep X N w0 w' (A::K))/\(∀ {w':Wd} {K:List As} {α:Type} {V:VR α} [VF V] {v:Vl} {x:α},Sep X1 N1 w w' (Go.Proofs.YtnjlbbfcngjhmaaGreat.ro N1 (V:=V) v x::K)->(∀ B∈K,∀ c,B.N c->N c)->Sep X N w0 w' (Go.Proofs.YtnjlbbfcngjhmaaGreat.ro N (V:=V) v x::K))/\(∀ c,N c->N1 c)) ∧
 (∀ {f:(Nat->Prop)->As},Ab f->∀ {w':Wd} {K:List As},Sep X1 N1 w w' (f N1::K)->(∀ B∈K,∀ c,B.N c->N c)->Sep X N w0 w' (f N::K)):=by
 obtain⟨Y,h1,h2⟩:=H.ex;obtain⟨h3,h4,h5⟩:=h1 0 A rfl
 have qg:∀ c,c∈(List.range L.length).flatMap (λi=>Y (i+1))↔∃ i,i<L.length/\c∈Y (i+1):=λc=>by simp
 have own:∀ i,i<L.length->∀ c∈Y (i+1),c<w.heap.size/\(c∈X∨w0.heap.size<=c):=λi hi c hc=>(h1 (i+1) L[i] (by simp [hi])).2.2 c hc
 have qc:∀ c,(N c∨c∈Y 0)->c ∉ (List.range L.length).flatMap (λi=>Y (i+1)):=λc hc hm=>by
  obtain⟨i,hi,qf⟩:=(qg c).1 hm
  rcases hc with hc | hc
  ·exact Sep.own (i:=0) (own i hi c qf).2 H hc
  ·exact h2 0 (i+1) (by simp) (by simp [hi]) (by omega) c hc qf
 have qa:∀ c,c∈(List.range L.length).flatMap (λi=>Y (i+1))->c∈X∨w0.heap.size<=c:=λc hc=>by
  obtain⟨i,hi,qf⟩:=(qg c).1 hc;exact(own i hi c qf).2
 have ab:∀ {f:(Nat->Prop)->As},Ab f->∀ {w':Wd} {K:List As},Sep ((List.range L.length).flatMap (λi=>Y (i+1))) (λc=>N c∨c∈Y 0) w w' (f (λc=>N c∨c∈Y 0)::K)->(∀ B∈K,∀ c,B.N c->N c)->Sep X N w0 w' (f N::K):=λ{f} hf {w' K} S hN=>by
  obtain⟨Z,g1,g2⟩:=S.ex
  have key:∀ k,k<(f (λc=>N c∨c∈Y 0)::K).length->Dj (Y 0) (Z k):=λk hk c hc qh=>by
   rcases((g1 k _ (Aa hk)).2.2 c qh).2 with h | h
   ·exact qc c (.inr hc) h
   ·have:=(h5 c hc).1
    omega
  have g0:=g1 0 _ rfl
  have qi:(f N::K).length=(f (λc=>N c∨c∈Y 0)::K).length:=by simp
  refine⟨⟨S.fr.os.trans H.fr.os,S.fr.tape.trans H.fr.tape,S.fr.output.trans H.fr.output,Cj H.fr.size S.fr.size,λk hk hn=>?_⟩,H.nb,λi=>match i with | 0=>Z 0++Y 0 | i+1=>Z (i+1),λi B hi=>?_,λi j hi hj qd=>?_⟩
  ·rw[S.fr.block k (At hk H.fr.size) (λhm=>by rcases qa k hm with h | h;exact hn h;omega),H.fr.block k hk hn]
  ·cases i with
   | zero=>
    simp at hi
    subst hi;refine⟨hf.2 (λc h=>h) g0.1,λc hc=>hf.1 _ c hc,λc hc=>?_⟩
    rcases Ar.1 hc with hc | hc
    ·refine⟨(g0.2.2 c hc).1,?_⟩
     rcases(g0.2.2 c hc).2 with h | h
     ·exact qa c h
     ·exact .inr (Cj H.fr.size h)
    ·exact⟨At (h5 c hc).1 S.fr.size,(h5 c hc).2⟩
   | succ i=>
    have qe:K[i]?=some B:=by simpa using hi
    obtain⟨g3,g4,g5⟩:=g1 (i+1) B (by simpa using qe);refine⟨g3,hN B (Ae qe),λc hc=>⟨(g5 c hc).1,?_⟩⟩
    rcases(g5 c hc).2 with h | h
    ·exact qa c h
    ·exact .inr (Cj H.fr.size h)
  ·rw[qi] at hi hj
   cases i with
   | zero=>
    cases j with
    | zero=>exact absurd rfl qd
    | succ j=>exact Dj.app' (g2 0 (j+1) hi hj (by omega)) (key (j+1) hj)
   | succ i=>
    cases j with
    | zero=>exact(Dj.app' (g2 0 (i+1) hj hi (by omega)) (key (i+1) hi)).symm
    | succ j=>exact g2 (i+1) (j+1) hi hj qd
 refine⟨(List.range L.length).flatMap (λi=>Y (i+1)),λc=>N c∨c∈Y 0,⟨Y 0,h3,λc hc=>.inr hc,λc hc=>.inl (h4 c hc)⟩,λh=>(h.to H.sm).mono (λc hc=>.inl hc),⟨B5.refl _ _,λc hc=>⟨?_,qc c hc⟩,λi=>Y (i+1),λi B hi=>?_,λi j hi hj qd=>h2 (i+1) (j+1) (by simpa using hi) (by simpa using hj) (by omega)⟩,⟨λ{w' K} S hN=>?_,λ{w' K α V hV v x} S hN=>ab Ab.ro S hN,λc hc=>.inl hc⟩,ab⟩
 ·rcases hc with hc | hc
  ·exact At (H.nb c hc).1 H.fr.size
  ·exact(h5 c hc).1
 ·have qj:=(Ac.1 hi).1
  obtain⟨h6,h7,h8⟩:=h1 (i+1) B (by simpa using hi);exact⟨h6,λc hc=>.inl (h7 c hc),λc hc=>⟨(h8 c hc).1,.inl ((qg c).2 ⟨i,qj,hc⟩)⟩⟩
 ·obtain⟨Z,g1,g2⟩:=S.ex
  refine⟨⟨S.fr.os.trans H.fr.os,S.fr.tape.trans H.fr.tape,S.fr.output.trans H.fr.output,Cj H.fr.size S.fr.size,λk hk hn=>?_⟩,H.nb,λi=>match i with | 0=>Y 0 | i+1=>Z i,λi B hi=>?_,λi j hi hj qd=>?_⟩
  ·rw[S.fr.block k (At hk H.fr.size) (λhm=>by rcases qa k hm with h | h;exact hn h;omega),H.fr.block k hk hn]
  ·cases i with
   | zero=>
    simp at hi
    subst hi;exact⟨A.st h3 (λc hc=>S.sm.blk c (.inr hc)) (λc hc=>S.sm.blk c (.inl (h4 c hc))) S.fr.size,h4,λc hc=>⟨At (h5 c hc).1 S.fr.size,(h5 c hc).2⟩⟩
   | succ i=>
    have qe:K[i]?=some B:=by simpa using hi
    obtain⟨g3,g4,g5⟩:=g1 i B qe;refine⟨g3,hN B (Ae qe),λc hc=>⟨(g5 c hc).1,?_⟩⟩
    rcases(g5 c hc).2 with h | h
    ·exact qa c h
    ·exact .inr (Cj H.fr.size h)
  ·have key:∀ k,k<K.length->Dj (Y 0) (Z k):=λk hk c hc qh=>by
    rcases((g1 k _ (Aa hk)).2.2 c qh).2 with h | h
    ·exact qc c (.inr hc) h
    ·have:=(h5 c hc).1
     omega
   cases i with
   | zero=>
    cases j with
    | zero=>exact absurd rfl qd
    | succ j=>exact key j (by simpa using hj)
   | succ i=>
    cases j with
    | zero=>exact(key i (by simpa using hi)).symm
    | succ j=>exact g2 i j (by simpa using hi) (by simpa using hj) (by omega)
end
section
open Go.RowKit
def OPt (v:Vl) (i:Nat) (p:Vl):Prop:=∃ b o m c,v= .slice (some ⟨b,o,none⟩) m c/\p= .pointer (some ⟨b,o+i,none⟩)
theorem mO {bss:List (List Nat)} {i:Nat} {c:Nat} (h:c∈(bss.set i []).flatten):c∈bss.flatten:=(dR h).elim id (λh=>nomatch h)
theorem xEj {bss:List (List Nat)} (hn:bss.flatten.Nodup) {i:Nat} {bi:List Nat} (hi:bss[i]?=some bi):bi.Nodup/\(bss.set i []).flatten.Nodup/\∀ c∈bi,c ∉ (bss.set i []).flatten:=by
 obtain⟨hl,rfl⟩:=Ac.1 hi
 have e:bss=bss.take i++bss[i]::bss.drop (i+1):=by rw[<- Br hl,Es]
 have e2:bss.set i []=bss.take i++[]::bss.drop (i+1):=by rw[List.set_eq_take_append_cons_drop,if_pos hl]
 rw[e2];rw[e] at hn;simp only[Em,List.flatten_cons,Bp] at hn ⊢;rw[Ch] at hn;obtain⟨n1,n2,n3⟩:=hn;rw[Ch] at n2;obtain⟨n4,n5,n6⟩:=n2;refine⟨n4,Ch.2 ⟨n1,n5,λa ha b hb=>n3 a ha b (Bq _ hb)⟩,λc hc hm=>?_⟩
 rcases Ar.1 hm with h | h
 ·exact n3 c h c (Bt _ hc) rfl
 ·exact n6 c hc c h rfl
section
variable {X:List Nat} {N:Nat->Prop} {w0 w:Wd} {D:List As} {α:Type} {sz:Nat} {R:ER α} [hR:FrC sz R] {E:Ty} {v:Vl}
end
section
variable {P:Program} {ops:Array Oper} {Q:Exit->Act->Wd->Prop} {a:Act} {w w0 w1:Wd} {n:Nat} {L:List (Nat×Vl)} {rest:List Oper} {d:Nat} {ty:Ty} {pos:String} {af:Array Edge} {g:Option (Nat×Bool)} {M N N1:Nat->Prop} {X:List Nat} {D:List As}
theorem oRo {α:Type} {R:ER α} [hR:FrC 1 R] {x iy:Operand} {t E:Ty} {v:Vl} {l:List α} {i:Int} {y:α} (ht:P.underlying t=some (.slice E)) (qc:∀ w,(sizeOf E).run P w= .ok 1 w)
 (F:Sk a n L) (hc:vO ops n L g d=true) (he:ev L x=some v) (hi:ev L iy=some (.int .i64 i)) (H:Sep X N w0 w D) (j:Nat) (hj:D[j]?=some (ow (V:=Sl 1 R) v l)) (qd:ix l i=some y)
 (k:∀ a' p,Bo (All w) w (Pt 1 R) p y->OPt v i.toNat p->Sk a' n ((d,p)::L)->wpList P ops Q rest a' w):wpList P ops Q (⟨some d,.indexAddr t x iy,ty,pos,af,g⟩::rest) a w:=by
 obtain⟨bs,h,hA⟩:=H.o j hj;obtain⟨h0,hy⟩:=aE qd;obtain⟨hk,rfl⟩:=Ac.1 hy;obtain⟨a',c',rfl,h1,h2,h3,h4⟩:=h.r.open;obtain⟨b,o,bss,bi,rfl,rfl,_,_,hs,hr⟩:=h4 i.toNat hk;simp only[Ce] at hr;refine zT (v:=.pointer (some ⟨b,o+i.toNat,none⟩)) (w':=w) F hc ?_ (λa' F'=>k a' _ ⟨b::bi,⟨⟨b,_,bi,rfl,rfl,hr⟩,λc hc=>?_⟩,λc hc=>?_⟩ ⟨b,o,_,c',rfl,rfl⟩ F')
 ·have qa:=dW b o (i.toNat*1)
  unfold execOp
  simp only[F.ev he,F.ev hi]
  have qe:i<(l.length:Int):=by omega
  simp only[Ce] at qa
  simp [Instr.indexAt,run_underlying ht,asIntOf,h0,qe,qc,qa]
 ·rcases Av.1 hc with rfl | hc
  ·exact h.m _ (by simp)
  ·exact h.m _ (hs c hc)
 ·rcases Av.1 hc with rfl | hc
  ·exact hA _ (by simp)
  ·exact hA _ (hs c hc)
theorem oSo {x y:Operand} {t:Ty} {v p:Vl} {l l':List Int} {i:Nat} {z:Int} (qi:∀ w,(sizeOf t).run P w= .ok 1 w)
 (F:Sk a n L) (hc:gok ops L g=true) (hx:ev L x=some p) (hy:ev L y=some (.int .i64 z)) (H:Sep X N w0 w (ow (V:=Sl 1 xF) v l::D)) (hp:OPt v i p) (hi:i<l.length) (hz:xL z) (hl:l.set i z=l')
 (k:∀ w',Sep X N w0 w' (ow (V:=Sl 1 xF) v l'::D)->wpList P ops Q rest a w'):wpList P ops Q (⟨none,.store t x y,ty,pos,af,g⟩::rest) a w:=by
 obtain⟨Y,⟨bs,hr,ho,hs⟩,hN,hY,tr⟩:=H.hd;obtain⟨ad,c,rfl,h1,h2,h3,h4⟩:=hr.r
 rcases h4 with ⟨rfl,_⟩ | ⟨b,o,bss,rfl,rfl,he⟩
 ·simp at hi
 obtain⟨b',o',m',c',e,rfl⟩:=hp;simp only[Value.slice.injEq,Option.some.injEq,Addr.mk.injEq,and_true] at e;obtain⟨⟨rfl,rfl⟩,rfl,rfl⟩:=e;subst hl;obtain⟨_,cur,e,qe⟩:=ho.2 b (by simp);have hK:nA w b cur e:=qe
 have qf:∀ j bj,bss[j]?=some bj->bj=[]:=λj bj hb=>by
  have hj:j<l.length:=by have:=(Ac.1 hb).1;rw[he.1] at this;exact this
  exact(he.2 j _ bj (Aa hj) hb).2.2
 have qa:bss.flatten=[]:=Du.2 (λbj hb=>by obtain⟨j,hj,rfl⟩:=Bx hb;exact qf j _ (Aa hj));have qc:=he.2 i _ _ (Aa hi) (Aa (by rw[he.1];exact hi))
 have qg:o+i<cur.size:=by
  have:=qc.1;simp only[Ce,Cb] at this;rw[hK.cell] at this;exact(Dh.1 this).1
 refine xKq qi F hc hx hy hK rfl qg rfl (λw' K' lo=>k w' (tr (Z:=[b]) (λc hc=>hs c (by rw[Bd] at hc;simp [hc])) lo (B:=ow (V:=Sl 1 xF) _ (l.set i z)) (Y1:=Y) ⟨b::bss.flatten,⟨⟨_,_,by simp,by simpa using h1,h2,h3,.inr ⟨b,o,bss,rfl,rfl,by simp [he.1],λj y' bj qd hb=>?_⟩⟩,λc hc=>?_⟩,⟨ho.1,λc hc=>?_⟩,hs⟩ n0 (λc hc=>⟨.inl hc,At (hY c hc).1 lo.size⟩)))
 ·obtain rfl:=qf j bj hb
  simp only[Ce]
  by_cases qh:j=i
  ·subst qh
   rw[Al hi] at qd
   cases qd
   refine⟨?_,hz,rfl⟩
   show w'.cell? ⟨b,o+j+0,none⟩=_
   rw[Cb,K'.cell,Cc,if_pos rfl,if_pos qg]
  ·rw[Aj (λe=>qh e.symm)] at qd
   have hm:=he.2 j y' [] qd hb;simp only[Ce] at hm;refine⟨?_,hm.2.1,rfl⟩;have h5:w.cell? ⟨b,o+j+0,none⟩=_:=hm.1
   show w'.cell? ⟨b,o+j+0,none⟩=_
   rw[Cb] at h5 ⊢;rw[hK.cell] at h5;rw[K'.cell,Cc,if_neg (by omega)];exact h5
 ·rw[qa,Bd] at hc
  subst hc;exact K'.lt
 ·rw[qa,Bd] at hc
  subst hc;exact⟨Dc _,_,_,K'⟩
end
end
section
open Go.RowKit
variable {x:Operand}
def rz (N:Nat->Prop) {α:Type} (sz:Nat) (R:ER α) [hR:FrC sz R] (E:Ty) (v:Vl) (xs:List α):As:= ⟨N,λw Y=>∃ rb ib,Row sz R E 0 w v xs rb ib/\(∀ c∈rb,c∈Y)/\∀ c∈ib,N c,λh h1 h2 hs=>by
 obtain⟨rb,ib,h3,h4,h5⟩:=h
 exact⟨rb,ib,h3.keep (λc hc=>h1 c (h4 c hc)) (λc hc=>h2 c (h5 c hc)) hs,h4,h5⟩⟩
def Bz {α:Type} (M N:Nat->Prop) (w:Wd) (sz:Nat) (R:ER α) (v:Vl) (l:List α):Prop:=∃ bs,Rd (Sl sz R) w v l bs/\∀ b r,bs=b::r->M b/\∀ c∈r,N c
def Pz {α:Type} (M N:Nat->Prop) (w:Wd) (sz:Nat) (R:ER α) (p:Vl) (y:α):Prop:=∃ b bi,Rd (Pt sz R) w p y (b::bi)/\M b/\∀ c∈bi,N c
section
variable {M N:Nat->Prop} {w:Wd} {α:Type} {sz:Nat} {R:ER α} {v p:Vl} {l:List α} {y:α}
theorem Bz.bo (h:Bz M N w sz R v l) (hs:∀ c,N c->M c):Bo M w (Sl sz R) v l:=by
 obtain⟨bs,h1,h2⟩:=h;refine⟨bs,h1,λc hc=>?_⟩
 cases bs with
 | nil=>cases hc
 | cons b r=>
  obtain⟨h3,h4⟩:=h2 b r rfl
  rcases Av.1 hc with rfl | hc
  ·exact h3
  ·exact hs c (h4 c hc)
theorem Pz.bo (h:Pz M N w sz R p y) (hs:∀ c,N c->M c):Bo M w (Pt sz R) p y:=by
 obtain⟨b,bi,h1,h2,h3⟩:=h;refine⟨_,h1,λc hc=>?_⟩
 rcases Av.1 hc with rfl | hc
 ·exact h2
 ·exact hs c (h3 c hc)
theorem Row.bz [hR:FrC sz R] {E:Ty} {B:Nat} {rb ib:List Nat} (h:Row sz R E B w v l rb ib) (h1:∀ c∈rb,M c) (h2:∀ c∈ib,N c):Bz M N w sz R v l:=by
 have hr:=h.rd;obtain⟨xs,bss,ho,hl,hfl,he⟩:=h.row;have hrb:=h.hrb
 rcases ho.2 with ⟨rfl,hn⟩ | ⟨g,cap,cur,rfl,_⟩
 ·refine⟨[],?_,λb r e=>by cases e⟩
  have e:l=[]:=Bw.1 hn;subst e;exact Rd.nil sz R w
 ·have e:rb=[g]:=by rw[hrb];simp [uE,Value.ownBlock]
  subst e
  exact⟨_,hr,λb r e=>by
   simp at e
   obtain⟨rfl,rfl⟩:=e
   exact⟨h1 _ (by simp),h2⟩⟩
theorem Rdg.zd [hR:FrC sz R] {N1:Nat->Prop} {E:Ty} (h:Rdg N1 w (rz N sz R E v l)):Bz N1 N w sz R v l:=
 let ⟨_,⟨_,_,h1,h2,h3⟩,h4,_⟩:=h;h1.bz (λc hc=>h4 c (h2 c hc)) h3
theorem Rdg.rzd [hR:FrC sz R] {N1:Nat->Prop} {E:Ty} (h:Rdg N1 w (rz N sz R E v l)):Bo N1 w (Sl sz R) v l:=h.zd.bo (let ⟨_,_,_,h5⟩:=h;h5)
end
section
variable {X:List Nat} {N M:Nat->Prop} {w0 w:Wd} {L:List As} {α:Type} {sz:Nat} {R:ER α} [hR:FrC sz R] {E:Ty} {v:Vl} {l:List α}
theorem Sep.zw (H:Sep X N w0 w (Go.Proofs.YtnjlbbfcngjhmaaGreat.rz M sz R E v l::L)):Sep X N w0 w (rw M sz R E v l::L):=by
 obtain⟨Y,⟨rb,ib,r1,r2,r3⟩,hN,hY,tr⟩:=H.hd;exact tr (Z:=[]) (λ_ h=>nomatch h) (B5.refl _ _) (B:=rw M sz R E v l) (Y1:=Y) ⟨rb,ib,r1,r2,λc hc=>.inr (r3 c hc)⟩ hN (λc hc=>⟨.inl hc,(hY c hc).1⟩)
theorem Sep.spl (H:Sep X N w0 w (rw M sz R E v l::L)):∃ (X1:List Nat) (N1:Nat->Prop),Lf N w0 N1 w/\Sep X1 N1 w w (Go.Proofs.YtnjlbbfcngjhmaaGreat.rz N1 sz R E v l::L) ∧
 ((∀ {w':Wd} {K:List As},Sep X1 N1 w w' K->(∀ B∈K,∀ c,B.N c->N c)->Sep X N w0 w' K)/\(N=N)/\(∀ c,N c->N1 c)) ∧
 (∀ {f:(Nat->Prop)->As},Ab f->∀ {w':Wd} {K:List As},Sep X1 N1 w w' (f N1::K)->(∀ B∈K,∀ c,B.N c->N c)->Sep X N w0 w' (f N::K)):=by
 obtain⟨Y,h1,h2⟩:=H.ex;obtain⟨⟨rb,ib,r1,r2,r3⟩,h4,h5⟩:=h1 0 _ rfl
 have qc:∀ c,c∈(rb++(List.range L.length).flatMap (λi=>Y (i+1)))↔c∈rb∨∃ i,i<L.length/\c∈Y (i+1):=λc=>by simp
 have own:∀ i,i<L.length->∀ c∈Y (i+1),c<w.heap.size/\(c∈X∨w0.heap.size<=c):=λi hi c hc=>(h1 (i+1) L[i] (by simp [hi])).2.2 c hc;have qh:∀ c∈ib,c<w.heap.size:=r1.mem
 have qa:∀ c,c∈(rb++(List.range L.length).flatMap (λi=>Y (i+1)))->c∈X∨w0.heap.size<=c:=λc hc=>by
  rcases(qc c).1 hc with h | ⟨i,hi,h⟩
  ·exact(h5 c (r2 c h)).2
  ·exact(own i hi c h).2
 have qd:∀ c,(N c∨c∈ib)->c ∉ (rb++(List.range L.length).flatMap (λi=>Y (i+1))):=λc hc hm=>by
  have qi:N c->False:=λhn=>Sep.own (i:=0) (qa c hm) H hn
  rcases hc with hc | hc
  ·exact qi hc
  ·rcases(qc c).1 hm with h | ⟨i,hi,h⟩
   ·exact r1.dj c h hc
   ·rcases r3 c hc with h6 | h6
    ·exact h2 0 (i+1) (by simp) (by simp [hi]) (by omega) c h6 h
    ·exact qi (h4 c h6)
 have fr:∀ {w':Wd} {K:List As},Sep (rb++(List.range L.length).flatMap (λi=>Y (i+1))) (λc=>N c∨c∈ib) w w' K->B5 X w0 w':=λ{w' K} S=>
  ⟨S.fr.os.trans H.fr.os,S.fr.tape.trans H.fr.tape,S.fr.output.trans H.fr.output,Cj H.fr.size S.fr.size,λk hk hn=>by
   rw[S.fr.block k (At hk H.fr.size) (λhm=>by rcases qa k hm with h | h;exact hn h;omega),H.fr.block k hk hn]⟩
 refine⟨rb++(List.range L.length).flatMap (λi=>Y (i+1)),λc=>N c∨c∈ib,λh=>(h.to H.sm).mono (λc hc=>.inl hc),⟨B5.refl _ _,λc hc=>⟨?_,qd c hc⟩,λi=>match i with | 0=>rb | i+1=>Y (i+1),λi B hi=>?_,λi j hi hj qe=>?_⟩,⟨λ{w' K} S hN=>?_,rfl,λc hc=>.inl hc⟩,λ{f} hf {w' K} S hN=>?_⟩
 ·rcases hc with hc | hc
  ·exact At (H.nb c hc).1 H.fr.size
  ·exact qh c hc
 ·cases i with
  | zero=>
   simp at hi
   subst hi;exact⟨⟨rb,ib,r1,λc hc=>hc,λc hc=>.inr hc⟩,λc hc=>hc,λc hc=>⟨(h5 c (r2 c hc)).1,.inl ((qc c).2 (.inl hc))⟩⟩
  | succ i=>
   obtain⟨h6,h7,h8⟩:=h1 (i+1) B (by simpa using hi);have qk:=(Ac.1 (by simpa using hi:L[i]?=some B)).1;exact⟨h6,λc hc=>.inl (h7 c hc),λc hc=>⟨(h8 c hc).1,.inl ((qc c).2 (.inr ⟨i,qk,hc⟩))⟩⟩
 ·have key:∀ k,k<L.length->Dj rb (Y (k+1)):=λk hk c hc qf=>h2 0 (k+1) (by simp) (by simp [hk]) (by omega) c (r2 c hc) qf
  cases i with
  | zero=>
   cases j with
   | zero=>exact absurd rfl qe
   | succ j=>exact key j (by simpa using hj)
  | succ i=>
   cases j with
   | zero=>exact(key i (by simpa using hi)).symm
   | succ j=>exact h2 (i+1) (j+1) (by simpa using hi) (by simpa using hj) (by omega)
 ·obtain⟨Z,g1,g2⟩:=S.ex
  refine⟨fr S,H.nb,Z,λi B hi=>?_,g2⟩;obtain⟨g3,g4,g5⟩:=g1 i B hi;refine⟨g3,hN B (Ae hi),λc hc=>⟨(g5 c hc).1,?_⟩⟩
  rcases(g5 c hc).2 with h | h
  ·exact qa c h
  ·exact .inr (Cj H.fr.size h)
 ·obtain⟨Z,g1,g2⟩:=S.ex
  have g0:=g1 0 _ rfl
  have qg:(f N::K).length=(f (λc=>N c∨c∈ib)::K).length:=by simp
  have hY:∀ c,c∈ib.filter (λc=>decide (c∈Y 0))->c∈ib/\c∈Y 0:=λc hc=>by simpa using hc
  have key:∀ k,k<(f (λc=>N c∨c∈ib)::K).length->Dj (ib.filter (λc=>decide (c∈Y 0))) (Z k):=λk hk c hc qf=>by
   obtain⟨q1,q2⟩:=hY c hc
   rcases((g1 k _ (Aa hk)).2.2 c qf).2 with h | h
   ·exact qd c (.inr q1) h
   ·have:=qh c q1
    omega
  refine⟨fr S,H.nb,λi=>match i with | 0=>Z 0++ib.filter (λc=>decide (c∈Y 0)) | i+1=>Z (i+1),λi B hi=>?_,λi j hi hj qe=>?_⟩
  ·cases i with
   | zero=>
    simp at hi
    subst hi;refine⟨hf.2 (λc h=>?_) g0.1,λc hc=>hf.1 _ c hc,λc hc=>?_⟩
    ·rcases h with h | h
     ·exact .inl h
     ·rcases r3 c h with h6 | h6
      ·exact .inr (by simp [h,h6])
      ·exact .inl (h4 c h6)
    ·rcases Ar.1 hc with hc | hc
     ·refine⟨(g0.2.2 c hc).1,?_⟩
      rcases(g0.2.2 c hc).2 with h | h
      ·exact qa c h
      ·exact .inr (Cj H.fr.size h)
     ·obtain⟨q1,q2⟩:=hY c hc
      exact⟨At (h5 c q2).1 S.fr.size,(h5 c q2).2⟩
   | succ i=>
    have qj:K[i]?=some B:=by simpa using hi
    obtain⟨g3,g4,g5⟩:=g1 (i+1) B (by simpa using qj);refine⟨g3,hN B (Ae qj),λc hc=>⟨(g5 c hc).1,?_⟩⟩
    rcases(g5 c hc).2 with h | h
    ·exact qa c h
    ·exact .inr (Cj H.fr.size h)
  ·rw[qg] at hi hj
   cases i with
   | zero=>
    cases j with
    | zero=>exact absurd rfl qe
    | succ j=>exact Dj.app' (g2 0 (j+1) hi hj (by omega)) (key (j+1) hj)
   | succ i=>
    cases j with
    | zero=>exact(Dj.app' (g2 0 (i+1) hj hi (by omega)) (key (i+1) hi)).symm
    | succ j=>exact g2 (i+1) (j+1) hi hj qe
end
theorem Sm.symm {N:Nat->Prop} {w w':Wd} (h:Sm N w w'):Sm N w' w:=⟨λc hc=>(h.blk c hc).symm⟩
section
variable {P:Program} {a:Act} {w w1:Wd} {n:Nat} {L:List (Nat×Vl)} {d:Option Tmp} {ty:Ty} {pos:String} {af:Array Edge} {g:Option (Nat×Bool)} {M N:Nat->Prop}
theorem oBr {α:Type} {sz:Nat} {R:ER α} {iy:Operand} {t:Ty} {v:Vl} {l:List α} {e:Ty} {i:Int} {y:α} (ht:P.underlying t=some (.slice e)) (qd:∀ w,(sizeOf e).run P w= .ok sz w)
 (F:Sk a n L) (he:ev L x=some v) (hi:ev L iy=some (.int .i64 i)) (h:Bz M N w1 sz R v l) (qe:ix l i=some y) :
 ∃ p,(∀ w',(execOp a.eval ⟨d,.indexAddr t x iy,ty,pos,af,g⟩).run P w'= .ok (.value p) w')/\Pz M N w1 sz R p y:=by
 obtain⟨bs,qa,hb⟩:=h;obtain⟨h0,hy⟩:=aE qe;obtain⟨hk,rfl⟩:=Ac.1 hy;obtain⟨a',c',rfl,h1,h2,h3,h4⟩:=qa.r.open;obtain⟨b,o,bss,bi,rfl,rfl,_,qf,hs,hr⟩:=h4 i.toNat hk;obtain⟨q1,q2⟩:=hb b _ rfl;refine⟨.pointer (some ⟨b,o+i.toNat*sz,none⟩),λw'=>?_,b,bi,⟨⟨b,_,bi,rfl,rfl,hr⟩,λc hc=>?_⟩,q1,λc hc=>q2 c (Bl.2 ⟨_,Ae qf,hc⟩)⟩
 ·have qc:=dW b o (i.toNat*sz)
  unfold execOp
  simp only[F.ev he,F.ev hi]
  have qg:i<(l.length:Int):=by omega
  simp [Instr.indexAt,run_underlying ht,asIntOf,h0,qg,qd,qc]
 ·rcases Av.1 hc with rfl | hc
  ·exact qa.m _ (by simp)
  ·exact qa.m _ (hs c hc)
theorem xPu {α β:Type} {sz s':Nat} {R:ER α} {R':ER β} {t:Ty} {kk:Nat} {p:Vl} {y:α} {z:β} {off:Nat} (hp:∀ (a:Addr) w,(Instr.fieldAt t (.pointer (some a)) kk).run P w= .ok (.pointer (some (a.add off))) w) (F:Sk a n L) (he:ev L x=some p) (h:Pz M N w1 sz R p y) (hf:∀ f bi,R w1 f y bi->∃ bj,R' w1 (λj=>f (off+j)) z bj/\∀ c∈bj,c∈bi) : ∃ p',(∀ w',(execOp a.eval ⟨d,.fieldAddr t x kk,ty,pos,af,g⟩).run P w'= .ok (.value p') w')/\Pz M N w1 s' R' p' z:=by
 obtain⟨b0,bi0,⟨⟨b,o,bi,rfl,qa,hr⟩,hm⟩,hM,hN⟩:=h;obtain⟨rfl,rfl⟩:=List.cons.inj qa;obtain⟨bj,h1,h2⟩:=hf _ _ hr;refine⟨.pointer (some ⟨b0,o+off,none⟩),λw'=>?_,b0,bj,⟨⟨b0,o+off,bj,rfl,rfl,?_⟩,λc hc=>?_⟩,hM,λc hc=>hN c (h2 c hc)⟩
 ·unfold execOp
  simp only[F.ev he]
  simp [hp,dW]
 ·simpa [Dq] using h1
 ·rcases Av.1 hc with rfl | hc
  ·exact hm _ (by simp)
  ·exact hm c (by simp [h2 c hc])
theorem oGl {α:Type} {sz:Nat} {R:ER α} {t:Ty} {p:Vl} {y:List α} (qa:∀ w,(isAgg t).run P w= .ok false w) (F:Sk a n L) (he:ev L x=some p) (h:Pz M N w1 1 (kP sz R) p y) : ∃ v,Bo N w1 (Sl sz R) v y/\∀ w',Sm M w1 w'->(execOp a.eval ⟨d,.load t x,ty,pos,af,g⟩).run P w'= .ok (.value v) w':=by
 obtain⟨b0,bi0,⟨⟨b,o,bi,rfl,qc,v,h0,hr⟩,hm⟩,hM,hN⟩:=h;obtain⟨rfl,rfl⟩:=List.cons.inj qc;refine⟨v,⟨bi0,⟨hr,λc hc=>hm c (by simp [hc])⟩,hN⟩,λw' s=>sY qa F he ?_⟩;rw[tL (s.blk b0 hM)]
 simpa using h0
end
section
variable {P:Program} {ops:Array Oper} {Q:Exit->Act->Wd->Prop} {a:Act} {w w0 w1:Wd} {n:Nat} {L:List (Nat×Vl)} {rest:List Oper} {d:Nat} {ty:Ty} {pos:String} {af:Array Edge} {g:Option (Nat×Bool)} {M N:Nat->Prop} {C:Wd->Prop} {K:Act->Prop}
theorem oIz {α:Type} {sz:Nat} {R:ER α} {iy:Operand} {t:Ty} {v:Vl} {l:List α} {e:Ty} {i:Int} {y:α} (ht:P.underlying t=some (.slice e)) (qa:∀ w,(sizeOf e).run P w= .ok sz w)
 (F:Sk a n L) (hc:vO ops n L g d=true) (he:ev L x=some v) (hi:ev L iy=some (.int .i64 i)) (h:Bz M N w1 sz R v l) (qc:ix l i=some y)
 (k:∀ a' p,Pz M N w1 sz R p y->Sk a' n ((d,p)::L)->wpList P ops Q rest a' w):wpList P ops Q (⟨some d,.indexAddr t x iy,ty,pos,af,g⟩::rest) a w:=
 let ⟨p,hr,hp⟩:=oBr ht qa F he hi h qc;zT F hc (hr w) (λa' F'=>k a' p hp F')
theorem oFz {α β:Type} {sz s':Nat} {R:ER α} {R':ER β} {t:Ty} {kk:Nat} {p:Vl} {y:α} {z:β} {off:Nat} (hp:∀ (a:Addr) w,(Instr.fieldAt t (.pointer (some a)) kk).run P w= .ok (.pointer (some (a.add off))) w)
 (F:Sk a n L) (hc:vO ops n L g d=true) (he:ev L x=some p) (h:Pz M N w1 sz R p y) (hf:∀ f bi,R w1 f y bi->∃ bj,R' w1 (λj=>f (off+j)) z bj/\∀ c∈bj,c∈bi)
 (k:∀ a' p',Pz M N w1 s' R' p' z->Sk a' n ((d,p')::L)->wpList P ops Q rest a' w):wpList P ops Q (⟨some d,.fieldAddr t x kk,ty,pos,af,g⟩::rest) a w:=
 let ⟨p',hr,h'⟩:=xPu (s':=s') hp F he h hf;zT F hc (hr w) (λa' F'=>k a' p' h' F')
theorem qFz {α β:Type} {sz s':Nat} {R:ER α} {R':ER β} {t:Ty} {kk:Nat} {p:Vl} {y:α} {z:β} {off:Nat} (hp:∀ (a:Addr) w,(Instr.fieldAt t (.pointer (some a)) kk).run P w= .ok (.pointer (some (a.add off))) w)
 (F:Sk a n L) (hc:vO ops n L g d=true) (he:ev L x=some p) (h:Pz M N w1 sz R p y) (hf:∀ f bi,R w1 f y bi->∃ bj,R' w1 (λj=>f (off+j)) z bj/\∀ c∈bj,c∈bi)
 (k:∀ a' p',Pz M N w1 s' R' p' z->Sk a' n ((d,p')::L)->wpQuiet P ops C K rest a'):wpQuiet P ops C K (⟨some d,.fieldAddr t x kk,ty,pos,af,g⟩::rest) a:=
 let ⟨p',hr,h'⟩:=xPu (s':=s') hp F he h hf;pH F hc (λw' _=>hr w') (λa' F'=>k a' p' h' F')
theorem vFz {α β:Type} {sz s':Nat} {R:ER α} {R':ER β} {t:Ty} {kk:Nat} {p:Vl} {y:α} {z:β} {off:Nat} (hp:∀ (a:Addr) w,(Instr.fieldAt t (.pointer (some a)) kk).run P w= .ok (.pointer (some (a.add off))) w)
 (F:Sk a n L) (hc:vO ops n L g d=true) (he:ev L x=some p) (h:Pz M N w1 sz R p y) (hf:∀ f bi,R w1 f y bi->∃ bj,R' w1 (λj=>f (off+j)) z bj/\∀ c∈bj,c∈bi)
 (k:∀ a' p',Pz M N w1 s' R' p' z->Sk a' n ((d,p')::L)->K a'):wpV P ops C K ⟨some d,.fieldAddr t x kk,ty,pos,af,g⟩ a:=
 let ⟨p',hr,h'⟩:=xPu (s':=s') hp F he h hf;gT F hc (λw' _=>hr w') (λa' F'=>k a' p' h' F')
theorem olSz {α:Type} {sz:Nat} {R:ER α} {t:Ty} {p:Vl} {y:List α} (qa:∀ w,(isAgg t).run P w= .ok false w) (F:Sk a n L) (hc:vO ops n L g d=true) (he:ev L x=some p) (s:Sm M w1 w) (h:Pz M N w1 1 (kP sz R) p y)
 (k:∀ a' v,Bo N w1 (Sl sz R) v y->Sk a' n ((d,v)::L)->wpList P ops Q rest a' w):wpList P ops Q (⟨some d,.load t x,ty,pos,af,g⟩::rest) a w:=
 let ⟨v,hv,hr⟩:=oGl qa F he h;zT F hc (hr w s) (λa' F'=>k a' v hv F')
theorem qlSz {α:Type} {sz:Nat} {R:ER α} {t:Ty} {p:Vl} {y:List α} (qa:∀ w,(isAgg t).run P w= .ok false w) (F:Sk a n L) (hc:vO ops n L g d=true) (he:ev L x=some p) (s:∀ w',C w'->Sm M w1 w') (h:Pz M N w1 1 (kP sz R) p y)
 (k:∀ a' v,Bo N w1 (Sl sz R) v y->Sk a' n ((d,v)::L)->wpQuiet P ops C K rest a'):wpQuiet P ops C K (⟨some d,.load t x,ty,pos,af,g⟩::rest) a:=
 let ⟨v,hv,hr⟩:=oGl qa F he h;pH F hc (λw' l=>hr w' (s w' l)) (λa' F'=>k a' v hv F')
theorem vlSz {α:Type} {sz:Nat} {R:ER α} {t:Ty} {p:Vl} {y:List α} (qa:∀ w,(isAgg t).run P w= .ok false w) (F:Sk a n L) (hc:vO ops n L g d=true) (he:ev L x=some p) (s:∀ w',C w'->Sm M w1 w') (h:Pz M N w1 1 (kP sz R) p y)
 (k:∀ a' v,Bo N w1 (Sl sz R) v y->Sk a' n ((d,v)::L)->K a'):wpV P ops C K ⟨some d,.load t x,ty,pos,af,g⟩ a:=
 let ⟨v,hv,hr⟩:=oGl qa F he h;gT F hc (λw' l=>hr w' (s w' l)) (λa' F'=>k a' v hv F')
end
end
section
open Go.RowKit
section
variable {P:Program} {ops:Array Oper} {Q:Exit->Act->Wd->Prop} {a:Act} {w w0 w1:Wd} {n:Nat} {L:List (Nat×Vl)} {rest:List Oper} {d:Nat} {ty:Ty} {pos:String} {af:Array Edge} {g:Option (Nat×Bool)} {M N N1:Nat->Prop} {X:List Nat} {D:List As}
end
end
section
open Go.RowKit
section
variable {P:Program} {ops:Array Oper} {Q:Exit->Act->Wd->Prop} {a:Act} {w w0 w1:Wd} {n:Nat} {L:List (Nat×Vl)} {rest:List Oper} {d:Nat} {ty:Ty} {pos:String} {af:Array Edge} {g:Option (Nat×Bool)}
end
end
section
open Go.RowKit
variable {x:Operand}
theorem ix3 {l:List Int} {i z:Int} (h:ix l i=some z):(l.map (Value.int .i64))[i.toNat]?=some (.int .i64 z):=by
 rw[Ay,(aE h).2];rfl
theorem Eo.ptr {N:Nat->Prop} {w:Wd} {α:Type} {sz:Nat} {R:ER α} {v:Vl} {x:α} (h:Bo N w (Pt sz R) v x):Eo N w 1 (RP sz R) v x:=by
 obtain⟨bs,⟨⟨b,o,bi,rfl,e,hr⟩,hm⟩,hN⟩:=h;exact⟨bs,⟨rfl,⟨_,rfl,⟨b,o,bi,rfl,e,hr⟩⟩,by simp [Value.cells,Value.oneCell'],hm⟩,hN⟩
theorem Bk.w {w w':Wd} {b:Nat} {cs:List Vl} {T:Ty} (h:Bk (All w) w b cs T) (l:Below w.heap.size w w'):Bk (All w') w' b cs T:=
 let q:=(Bk.o h (Sm.all l));⟨q,q.lt⟩
section
variable {P:Program} {ops:Array Oper} {Q:Exit->Act->Wd->Prop} {C:Wd->Prop} {K:Act->Prop} {a:Act} {w:Wd} {n:Nat} {L:List (Nat×Vl)} {rest:List Oper} {d:Nat} {dd:Option Tmp} {ty:Ty} {pos:String} {af:Array Edge} {g:Option (Nat×Bool)}
theorem xLv {nn:Nat} {t e:Ty} {z:Vl} {parts:Array (Nat×Operand)} {ps:List (Nat×Operand)} {idx:List Nat} {xs:List Operand} {vs:List Vl} {cs:Array Vl} (ht:P.underlying t=some (.array nn e)) (hz:∀ w,(zeroValue t).run P w= .ok z w)
 (qc:∀ w,(sizeOf e).run P w= .ok 1 w) (F:Sk a n L) (hp:parts.toList=ps) (h1:ps.map Prod.fst=idx) (h2:ps.map Prod.snd=xs) (hx:evs L xs=some vs) (hone:∀ v∈vs,v.oneCell'=true) (qd:idx.all (λi=>decide (i<z.cells.size))=true)
 (qe:(idx.zip vs).foldl (λcs p=>cs.setIfInBounds p.1 p.2) z.cells=cs) {w':Wd}:(execOp a.eval ⟨dd,.build t parts,ty,pos,af,g⟩).run P w'= .ok (.value (.agg cs)) w':=by
 have hv:=F.evs hx
 have qa:(parts.map λ(i,x)=>(i,a.eval x)).toList=idx.zip vs:=by
  rw[Array.toList_map,hp,<- h1,<- hv,<- h2];exact(xCm a.eval ps).symm
 have hf:=xJf (λi=>some (i*1,1)) (idx.zip vs) z.cells (λp hp=>by
  obtain⟨hi,qf⟩:=List.of_mem_zip hp;have:=Ci.1 qd p.1 hi;simp only[Bg] at this
  exact⟨hone _ qf,by rw[Ce],this⟩)
 rw[qe] at hf
 unfold execOp
 simp only[Instr.build,Sem.run_bind,hz,Result.andThen_ok,run_underlying ht,qc];rw[qa,hf]
 rfl
theorem xZk {nn:Nat} {t e:Ty} {z:Vl} {parts:Array (Nat×Operand)} {ps:List (Nat×Operand)} {idx:List Nat} {xs:List Operand} {vs:List Vl} {cs:Array Vl} (ht:P.underlying t=some (.array nn e)) (hz:∀ w,(zeroValue t).run P w= .ok z w) (qa:∀ w,(sizeOf e).run P w= .ok 1 w) (F:Sk a n L) (hc:vO ops n L g d=true) (hp:parts.toList=ps) (h1:ps.map Prod.fst=idx) (h2:ps.map Prod.snd=xs) (hx:evs L xs=some vs) (hone:∀ v∈vs,v.oneCell'=true) (qc:idx.all (λi=>decide (i<z.cells.size))=true) (qd:(idx.zip vs).foldl (λcs p=>cs.setIfInBounds p.1 p.2) z.cells=cs) (k:∀ a',Sk a' n ((d,.agg cs)::L)->wpList P ops Q rest a' w):wpList P ops Q (⟨some d,.build t parts,ty,pos,af,g⟩::rest) a w:= zT F hc (xLv ht hz qa F hp h1 h2 hx hone qc qd) k
theorem oIu {nn:Nat} {t e:Ty} {y:Operand} {l:List Int} {cs:Array Vl} {i z:Int} (ht:P.underlying t=some (.array nn e)) (qc:∀ w,(isAgg e).run P w= .ok false w) (qd:∀ w,(sizeOf e).run P w= .ok 1 w) (F:Sk a n L) (hc:vO ops n L g d=true) (he:ev L x=some (.agg cs)) (hi:ev L y=some (.int .i64 i)) (hl:cs.toList=l.map (Value.int .i64)) (hn:l.length=nn) (qa:ix l i=some z)
 (k:∀ a',Sk a' n ((d,.int .i64 z)::L)->wpList P ops Q rest a' w):wpList P ops Q (⟨some d,.index t x y,ty,pos,af,g⟩::rest) a w:=by
 obtain⟨h0,hz⟩:=aE qa
 have qe:i<(nn:Int):=by
  have:=(Ac.1 hz).1
  omega
 have hg:cs[i.toNat]?=some (.int .i64 z):=by
  rw[<- Dp,hl];exact ix3 qa
 refine zT F hc ?_ k
 unfold execOp
 simp only[F.ev he,F.ev hi]
 simp [Instr.index,run_underlying ht,asIntOf,h0,qe,qd,part,qc,hg]
theorem oDz {nn b:Nat} {t e:Ty} {y:Operand} {i:Int} (ht:P.underlying t=some (.array nn e)) (qc:∀ w,(sizeOf e).run P w= .ok 1 w) (F:Sk a n L) (hc:vO ops n L g d=true) (he:ev L x=some (.pointer (some ⟨b,0,none⟩))) (hi:ev L y=some (.int .i64 i)) {l:List Int} {z:Int} (hn:l.length=nn) (qd:ix l i=some z)
 (k:∀ a',Sk a' n ((d,.pointer (some ⟨b,i.toNat,none⟩))::L)->wpList P ops Q rest a' w):wpList P ops Q (⟨some d,.indexAddr t x y,ty,pos,af,g⟩::rest) a w:=by
 obtain⟨h0,hz⟩:=aE qd
 have qe:i<(nn:Int):=by
  have:=(Ac.1 hz).1
  omega
 refine zT F hc ?_ k;have qa:=dW b 0 i.toNat;rw[Bj] at qa
 unfold execOp
 simp only[F.ev he,F.ev hi]
 simp [Instr.indexAt,Instr.sureAddr,run_underlying ht,asIntOf,h0,qe,qc,qa]
theorem oCk {M:Nat->Prop} {w1:Wd} {α:Type} {sz:Nat} {R:ER α} {hi mx:Operand} {t E:Ty} {v:Vl} {l r:List α} {j:Int} (ht:P.underlying t=some (.slice E)) (qe:∀ w,(sizeOf E).run P w= .ok sz w)
 (F:Sk a n L) (hc:vO ops n L g d=true) (hx:ev L x=some v) (hh:ev L hi=some (.int .i64 j)) (hm:ev L mx=some (.int .i64 j)) (h:Bo M w1 (Sl sz R) v l) (hs:sl l 0 j=some r)
 (k:∀ a' v',Bo M w1 (Sl sz R) v' r->Sk a' n ((d,v')::L)->wpList P ops Q rest a' w):wpList P ops Q (⟨some d,.slice t x none (some hi) (some mx),ty,pos,af,g⟩::rest) a w:=by
 obtain⟨bs,⟨⟨ad,c,rfl,h1,h2,h3,h4⟩,qf⟩,hN⟩:=h;obtain⟨h0,qd,qg,rfl⟩:=xIz hs;obtain⟨j,rfl⟩:∃ m:Nat,j=m:=⟨j.toNat,by omega⟩;simp only[Ad,Int.toNat_zero,Er] at k ⊢
 have h5:(j:Int)<=c:=by omega
 have h6:(j:Int)<=(l.length:Int):=qg
 have hr:(execOp a.eval ⟨some d,.slice t x none (some hi) (some mx),ty,pos,af,g⟩).run P w= .ok (.value (.slice (if j=0 then ad else ad.map (·.add 0)) j j)) w:=by
  unfold execOp
  simp only[F.ev hx,F.ev hh,F.ev hm,Option.map_none,Cr]
  have h7:¬ c<j:=by omega
  simp [Instr.sliceAt,Instr.slice,run_underlying ht,Instr.sliceBounds,Instr.sliceBound,asIntOf,qe,h5,h7]
 have qh:(if j=0 then ad else ad.map (·.add 0))=ad:=by
  split
  ·rfl
  ·cases ad with
   | none=>rfl
   | some y=>rfl
 rw[qh] at hr
 have hl:(l.take j).length=j:=by rw[Bc];omega
 rcases h4 with ⟨rfl,rfl⟩ | ⟨b,o,bss,rfl,rfl,hb,he⟩
 ·refine zT F hc hr (λa' F'=>k a' _ ⟨[],⟨⟨ad,j,by rw[hl],by rw[hl];exact Az _,by omega,λe=>by have:=h3 e;omega,.inl ⟨by simp,rfl⟩⟩,zW.nil _⟩,λ_ h=>nomatch h⟩ F')
 ·have qc:∀ x∈(bss.take j).flatten,x∈bss.flatten:=λx hx=>by
   obtain⟨y,hy,qi⟩:=Bl.1 hx;exact Bl.2 ⟨y,Dt hy,qi⟩
  have qa:∀ x∈b::(bss.take j).flatten,x∈b::bss.flatten:=λx hx=>by
   rcases Av.1 hx with rfl | hx
   ·simp
   ·exact Aw _ (qc x hx)
  refine zT F hc hr (λa' F'=>k a' _ ⟨b::(bss.take j).flatten,⟨⟨some ⟨b,o,none⟩,j,by rw[hl],by rw[hl];exact Az _,by omega,(λe=>nomatch e),.inr ⟨b,o,bss.take j,rfl,rfl,by rw[hl,Bc];omega,λi x bi hx hi=>?_⟩⟩,λx hx=>qf x (qa x hx)⟩,λx hx=>hN x (qa x hx)⟩ F');rw[Be] at hx hi
  split at hx
  ·rename_i qd
   rw[if_pos qd] at hi;exact he i x bi hx hi
  ·cases hx
end
end
section
open Go.RowKit
def bO {α:Type} (sz:Nat) (R:ER α) (E2:Ty):ER (List α):=λw f xs bs=>∃ u rb ib,f 0=some u/\Row sz R E2 0 w u xs rb ib/\bs=rb++ib
theorem Row.keep' {α:Type} {sz:Nat} {R:ER α} [hR:FrC sz R] {E:Ty} {w w':Wd} {v:Vl} {l:List α} {rb ib:List Nat} (h:Row sz R E 0 w v l rb ib) (h1:sM (rb++ib) w w'):Row sz R E 0 w' v l rb ib:=by
 have hm:zW ib w':=λc hc=>by
  have h2:=h1 c (Bq _ hc);rw[Cw (h.mem c hc)] at h2;exact(Dh.1 h2).1
 obtain⟨xs,bss,ho,hl,rfl,he⟩:=h.row;have hrb:=h.hrb;refine⟨⟨xs,bss,⟨ho.1,?_⟩,hl,rfl,λi x bi hx hi=>hR.fr _ _ _ _ x bi (he i x bi hx hi) (λc hc=>h1 c (Bq _ (Bl.2 ⟨bi,Ae hi,hc⟩))) (λ_ _=>rfl)⟩,hrb,hm,h.dj⟩
 rcases ho.2 with h3 | ⟨g,cap,cur,rfl,h3,h4,h5⟩
 ·exact .inl h3
 ·refine .inr ⟨g,cap,cur,rfl,h3,?_,h5⟩
  rw[h1 g (Bt _ (by rw[hrb];simp [uE,Value.ownBlock]))];exact h4
theorem Row.one {α:Type} {sz:Nat} {R:ER α} {E:Ty} {w:Wd} {v:Vl} {l:List α} {rb ib:List Nat} (h:Row sz R E 0 w v l rb ib):v.oneCell'=true:=by
 obtain⟨xs,bss,ho,_⟩:=h.row
 rcases ho.2 with ⟨rfl,_⟩ | ⟨g,cap,cur,rfl,_⟩<;>rfl
instance {α:Type} {sz:Nat} {R:ER α} [hR:FrC sz R] {E2:Ty}:FrC 1 (bO sz R E2):=⟨λw w' f g x bs ⟨u,rb,ib,h0,h1,h2⟩ hs hg=>by
 subst h2
 exact⟨u,rb,ib,(hg 0 (by omega)).trans h0,h1.keep' hs,rfl⟩,λw f x bs ⟨u,rb,ib,h0,h1,h2⟩ j hj=>by
 obtain rfl:j=0:=by omega
 exact⟨u,h0,h1.one⟩⟩
theorem bO.nil {α:Type} {sz:Nat} {R:ER α} {E2:Ty} (w:Wd):bO sz R E2 w (λj=>[Value.slice none 0 0][j]?) ([]:List α) []:= ⟨_,[],[],rfl,⟨⟨[],[],World.ownsRow_nil w 0 E2 sz,rfl,rfl,λi x bi hx=>by cases i<;>cases hx⟩,rfl,zW.nil w,λ_ h=>nomatch h⟩,rfl⟩
def RH {α:Type} (sz:Nat) (R:ER α) (E2:Ty):ER (Vl ⊕ List α):=λw f x bs=>match x with
 | .inl u=>f 0=some u/\u.oneCell'=true/\bs=[]
 | .inr l=>bO sz R E2 w f l bs
instance {α:Type} {sz:Nat} {R:ER α} [hR:FrC sz R] {E2:Ty}:FrC 1 (RH sz R E2):=⟨λw w' f g x bs h hs hg=>by
 cases x with
 | inl u=>exact⟨(hg 0 (by omega)).trans h.1,h.2⟩
 | inr l=>exact(inferInstance:FrC 1 (bO sz R E2)).fr _ _ _ _ _ _ h hs hg,λw f x bs h j hj=>by
 cases x with
 | inl u=>
  obtain rfl:j=0:=by omega
  exact⟨u,h.1,h.2.1⟩
 | inr l=>exact(inferInstance:FrC 1 (bO sz R E2)).tot _ _ _ _ h j hj⟩
section
variable {X:List Nat} {N:Nat->Prop} {w0 w:Wd} {D:List As} {α:Type} {sz:Nat} {R:ER α} [hR:FrC sz R] {E E2:Ty} {v:Vl}
theorem Sep.rr {xss:List (List α)} (H:Sep X N w0 w (rl 1 (bO sz R E2) E v xss::D)):Sep X N w0 w (rl 1 (kP sz R) E v xss::D):=by
 obtain⟨Y,⟨rb,ib,r1,qa,r2,r3⟩,hN,hY,tr⟩:=H.hd;refine tr (Z:=[]) (λ_ h=>nomatch h) (B5.refl _ _) (B:=rl 1 (kP sz R) E v xss) (Y1:=Y) ⟨rb,ib,⟨?_,r1.hrb,r1.mem,r1.dj⟩,qa,r2,r3⟩ n0 (λc hc=>⟨.inl hc,(hY c hc).1⟩);obtain⟨xs,bss,ho,hl,qc,he⟩:=r1.row;refine⟨xs,bss,ho,hl,qc,λi x bi hx hi=>?_⟩;obtain⟨u,rb',ib',h0,h1,rfl⟩:=he i x bi hx hi;exact⟨u,h0,h1.rd.r⟩
theorem Sep.rh {xss:List (List α)} (H:Sep X N w0 w (rl 1 (RH sz R E2) E v (xss.map .inr)::D)):Sep X N w0 w (rl 1 (bO sz R E2) E v xss::D):=by
 obtain⟨Y,⟨rb,ib,r1,qa,r2,r3⟩,hN,hY,tr⟩:=H.hd;refine tr (Z:=[]) (λ_ h=>nomatch h) (B5.refl _ _) (B:=rl 1 (bO sz R E2) E v xss) (Y1:=Y) ⟨rb,ib,⟨?_,r1.hrb,r1.mem,r1.dj⟩,qa,r2,r3⟩ n0 (λc hc=>⟨.inl hc,(hY c hc).1⟩);obtain⟨xs,bss,ho,hl,qc,he⟩:=r1.row;rw[Bu] at ho hl;exact⟨xs,bss,ho,hl,qc,λi x bi hx hi=>he i (.inr x) bi (by rw[Ay,hx];rfl) hi⟩
theorem El.rr {u:Vl} {l:List α} {rb ib:List Nat} (h:Row sz R E2 0 w u l rb ib):El 1 (RH sz R E2) w u (.inr l) (rb++ib):=by
 obtain⟨a,c,e⟩:=h.rd.r.val;subst e;exact⟨rfl,⟨_,rb,ib,rfl,h,rfl⟩,by simp [Value.cells,Value.oneCell'],h.rd.m⟩
end
theorem ixh {α:Type} {xss:List (List α)} {k:Int} {u:Vl} {l:List α} (h:ix xss k=some l):ix ((xss.map Sum.inr).set k.toNat (Sum.inl u)) k=some (.inl u:Vl ⊕ List α):=by
 obtain⟨h0,h1⟩:=aE h
 unfold ix
 rw[if_pos h0,Al (by rw[Bu];exact(Ac.1 h1).1)]
section
variable {P:Program} {ops:Array Oper} {Q:Exit->Act->Wd->Prop} {a:Act} {w w0 w1:Wd} {n:Nat} {L:List (Nat×Vl)} {rest:List Oper} {d:Nat} {ty:Ty} {pos:String} {af:Array Edge} {g:Option (Nat×Bool)} {M N N1:Nat->Prop} {X:List Nat} {D:List As}
theorem oFoR {α:Type} {sz:Nat} {R:ER α} [hR:FrC sz R] {x:Operand} {t E E2:Ty} {v p:Vl} {xss:List (List α)} {i:Nat} {l:List α} (qq:∀ w,(isAgg t).run P w= .ok false w) (F:Sk a n L) (hc:vO ops n L g d=true) (he:ev L x=some p) (H:Sep X N w0 w (rl 1 (bO sz R E2) E v xss::D)) (hp:RPt v 1 i p) (hi:xss[i]?=some l)
 (k:∀ a' u,Sep X N w0 w (rl sz R E2 u l::rl 1 (RH sz R E2) E v ((xss.map .inr).set i (.inl u))::D)->Sk a' n ((d,u)::L)->wpList P ops Q rest a' w):wpList P ops Q (⟨some d,.load t x,ty,pos,af,g⟩::rest) a w:=by
 obtain⟨Y,⟨rb,ib,r1,qc,r2,r3⟩,hN,hY,tr⟩:=H.hd;obtain⟨g2,m,c,rfl,rfl⟩:=hp;obtain⟨qr,hil2⟩:=Ac.1 hi;obtain⟨xs,bss,ho,hl,qh,qm⟩:=r1.row
 have qi:i<bss.length:=by omega
 have qn:=Aa qi;obtain⟨u,rbu,ibu,hu,qo,qf⟩:=qm i l bss[i] hi qn;simp only[Ce,Cb] at hu
 have qe:w.cell? ⟨g2,i*1,none⟩=some u:=by
  have:=ho.cells (g:=g2) rfl i u hu;rw[dW] at this
  simpa using this
 have qj:=xEj (by rw[qh];exact qc.1) qn
 have qd:∀ c∈bss[i],c∈ib:=λc hc=>by rw[<- qh];exact Bl.2 ⟨_,Bn qi,hc⟩
 have qa:∀ c∈(bss.set i []).flatten,c∈ib:=λc hc=>by rw[<- qh];exact mO hc
 have qk:Row 1 (RH sz R E2) E 0 w (.slice (some ⟨g2,0,none⟩) m c) ((xss.map .inr).set i (.inl u)) rb (bss.set i []).flatten:=by
  refine⟨⟨xs,bss.set i [],by simpa using ho,by simp [hl],rfl,λj y bj hy qg=>?_⟩,r1.hrb,λc hc=>r1.mem c (qa c hc),λc hc ql=>r1.dj c hc (qa c ql)⟩
  by_cases qp:j=i
  ·subst qp
   rw[Al (by simpa using qr)] at hy;rw[Al qi] at qg
   cases hy
   cases qg
   exact⟨by simpa using hu,qo.one,rfl⟩
  ·rw[Aj (λe=>qp e.symm)] at hy qg
   rw[Ay,En] at hy;obtain⟨z,hz,rfl⟩:=hy;exact qm j z bj hz qg
 refine zT F hc (sY qq F he qe) (λa' F'=>k a' u ?_ F');refine Sep.um (tr (Z:=[]) (λ_ h=>nomatch h) (B5.refl _ _) (B:=pr (rl sz R E2 u l) (rl 1 (RH sz R E2) E (.slice (some ⟨g2,0,none⟩) m c) ((xss.map .inr).set i (.inl u)))) (Y1:=Y) ⟨bss[i],rb++(bss.set i []).flatten,⟨rbu,ibu,qo,⟨(Ch.1 (qf ▸ qj.1)).2.1,λc hc=>qc.2 c (qd c (by rw[qf];exact Bq _ hc))⟩,λc hc=>by rw[qf];exact Bt _ hc,λc hc=>by rw[qf];exact Bq _ hc⟩,⟨rb,_,qk,⟨qj.2.1,λc hc=>qc.2 c (qa c hc)⟩,λc hc=>Bt _ hc,λc hc=>Bq _ hc⟩,λc hc ql=>?_,λc hc=>r3 c (qd c hc),λc hc=>?_⟩ (λc hc=>hc.elim (n0 c) (n0 c)) (λc hc=>⟨.inl hc,(hY c hc).1⟩))
 ·rcases Ar.1 ql with h | h
  ·exact r1.dj c h (qd c hc)
  ·exact qj.2.2 c hc h
 ·rcases Ar.1 hc with h | h
  ·exact r2 c h
  ·exact r3 c (qa c h)
theorem oSfR {α:Type} {sz:Nat} {R:ER α} [hR:FrC sz R] {x y:Operand} {t E E2:Ty} {v p u u0:Vl} {xss l':List (List α)} {i:Nat} {l:List α} (qd:∀ w,(sizeOf t).run P w= .ok 1 w)
 (F:Sk a n L) (hc:gok ops L g=true) (hx:ev L x=some p) (hy:ev L y=some u) (H:Sep X N w0 w (rl 1 (RH sz R E2) E v ((xss.map .inr).set i (.inl u0))::rl sz R E2 u l::D)) (hp:RPt v 1 i p) (hi:i<((xss.map Sum.inr).set i (Sum.inl u0):List (Vl ⊕ List α)).length) (hl:xss.set i l=l')
 (k:∀ w',Sep X N w0 w' (rl 1 (bO sz R E2) E v l'::D)->wpList P ops Q rest a w'):wpList P ops Q (⟨none,.store t x y,ty,pos,af,g⟩::rest) a w:=by
 obtain⟨Y,⟨Y1,Y2,⟨rb,ib,r1,ro,r2,r3⟩,⟨rb2,ib2,s1,so,s2,s3⟩,dj,y1,y2⟩,hN,hY,tr⟩:=H.mg.hd;subst hl;have hm:∀ c,c∈rb2++ib2->c∈Y2:=λc hc=>(Ar.1 hc).elim (s2 c) (s3 c);have qa:=s1.own so;refine xJy qd F hc hx hy r1 hp hi (El.rr s1) s1.one (λc hc qc=>dj c (r2 c hc) (hm c qc)) (λw' ib' q o hs hn=>k w' (Sep.rh ?_))
 have e:((xss.map Sum.inr).set i (Sum.inl u0):List (Vl ⊕ List α)).set i (.inr l)=(xss.set i l).map .inr:=by rw[List.set_set,List.map_set]
 rw[e] at q;refine tr (Z:=rb) (λc hc=>y1 c (r2 c hc)) o (B:=rl 1 (RH sz R E2) E v ((xss.set i l).map .inr)) (Y1:=Y) ⟨rb,ib',q,⟨hn ro.1 qa.1 (λc hc qc=>dj c (r3 c hc) (hm c qc)),λc hc=>?_⟩,λc hc=>y1 c (r2 c hc),λc hc=>(hs c hc).elim (λh=>y1 c (r3 c h)) (λh=>y2 c (hm c h))⟩ n0 (λc hc=>⟨.inl hc,At (hY c hc).1 o.size⟩)
 have hk:∀ c,c∈ib∨c∈rb2++ib2->c<w.heap.size/\c ∉ rb/\0<=c/\∃ cur e,w.heap[c]?=some (.cells cur e (0,0)):=λc hc=>by
  rcases hc with h | h
  ·exact⟨r1.mem c h,λh'=>r1.dj c h' h,ro.2 c h⟩
  ·exact⟨qa.inMem c h,λh'=>dj c (r2 c h') (hm c h),qa.2 c h⟩
 obtain⟨h1,h2,h3,h4⟩:=hk c (hs c hc);exact⟨h3,by rw[o.block c h1 h2];exact h4⟩
end
end
section
open Go.RowKit
variable {x:Operand} {i:Int} {j:Int} {iy:Operand}
class Ug (P:Program) (t:Ty) (u:outParam _):Prop where
  h:P.underlying t=some u
class Sz (P:Program) (t:Ty) (s:outParam Nat):Prop where
  h:∀ w,(sizeOf t).run P w= .ok s w
class Ag (P:Program) (t:Ty) (b:outParam Bool):Prop where
  h:∀ w,(isAgg t).run P w= .ok b w
class Zv (P:Program) (t:Ty) (z:outParam Vl):Prop where
  h:∀ w,(zeroValue t).run P w= .ok z w
class If (P:Program) (E:Ty) (z:outParam Vl) (sz bytes:outParam Nat):Prop where
  h:(P.info? E).map (λi=>(i.zero,i.size,i.bytes))=some (some z,sz,bytes)
class Fd (P:Program) (t:Ty) (k:Nat) (off:outParam Nat):Prop where
  h:∀ (a:Addr) w,(Instr.fieldAt t (.pointer (some a)) k).run P w= .ok (.pointer (some (a.add off))) w
class Cf (P:Program) (f:FuncId):Prop where
  h:∀ args w,(callFunc f args).run P w= .ok (.enter f args) w
class Mo (P:Program):Prop where
  h:P.follows .mixedOrders=true
def Gq (P:Program) (ops:Array Oper) (X:List Nat) (N:Nat->Prop) (w0:Wd) (D:List As) (K:Act->Wd->Prop) (l:List Oper) (a:Act) (w:Wd):Prop:=wpQuiet P ops (λw'=>Below w.heap.size w w') (λa'=>∀ w',Sep X N w0 w' D->K a' w') l a
def bqc (ops:Array Oper) (ls:Array Bool) (i:Nat):Bool->Bool | true=>!cOp ops i && (Region.noSelect ops && (Region.free .any ops ls i && ((Region.ready .any ops ls).contains i && xZw ops ls))) | false=>Region.noSelect ops && (Region.free .any ops ls i && (Region.ready .any ops ls).contains i)
section
variable {P:Program} {ops:Array Oper} {Q Q':Exit->Act->Wd->Prop} {fn:Func} {n:Nat} {X:List Nat} {N M N1 Mv:Nat->Prop} {w0 w w1:Wd} {L L':List (Nat×Vl)} {D D':List As} {A B:As} {ρ σ τ:Type} {tt:Option ρ} {CC:ρ->Prop} {G G' K:Act->Wd->Prop} {R:Ending->Wd->Prop} {l l' rest:List Oper} {d f:Nat} {ls:Array Bool} {ty:Ty} {pos:String} {af:Array Edge} {g:Option (Nat×Bool)}
theorem bq {a:Act} {i:Nat} {oi:Oper} (hb:bqc ops ls i true=true) (hi:ops[i]?=some oi) (h:wpV P ops (λw'=>Sm Mv w w') (λa'=>zB P ops K (Sm Mv) f (ls.setIfInBounds i true) a' w) oi a):zB P ops K (Sm Mv) (f+1) ls a w:=by
 simp only[bqc,Ba,Bool.not_eq_true'] at hb;exact b_q i hb.1 hi hb.2.1 hb.2.2.1 hb.2.2.2.1 hb.2.2.2.2 h
theorem bz {a:Act} {i:Nat} {oi:Oper} (hb:bqc ops ls i false=true) (hi:ops[i]?=some oi) (h:wpV P ops (λ_=>True) (λa'=>zB P ops K (Sm Mv) f (ls.setIfInBounds i true) a' w) oi a):zB P ops K (Sm Mv) (f+1) ls a w:=by
 simp only[bqc,Ba] at hb;exact xTt i hi hb.1 hb.2.1 hb.2.2 h
theorem bN {y:Operand} {t t':Ty} {z:Int} (hz:ck (i+j)=some z) (kt:J n X N w0 ((d,.int .i64 z)::L) D tt CC (wpList P ops Q rest)) (hc:vO ops n L g d=true:=by rfl) (e:ev L x=some (.int .i64 i):=by rfl) (e':ev L y=some (.int .i64 j):=by rfl):J n X N w0 L D tt CC (wpList P ops Q (⟨some d,.binOp .add t x y t',ty,pos,af,g⟩::rest)):=⟨λa w F H xq qa qc=>xZy F hc e e' hz (λa' F'=>(kt).h a' w F' H xq qa qc)⟩
theorem gM {y:Operand} {t t':Ty} {z:Int} (hz:ck (i - j)=some z) (kt:J n X N w0 ((d,.int .i64 z)::L) D tt CC (wpList P ops Q rest)) (hc:vO ops n L g d=true:=by rfl) (e:ev L x=some (.int .i64 i):=by rfl) (e':ev L y=some (.int .i64 j):=by rfl):J n X N w0 L D tt CC (wpList P ops Q (⟨some d,.binOp .sub t x y t',ty,pos,af,g⟩::rest)):=⟨λa w F H xq qa qc=>oKe F hc e e' hz (λa' F'=>(kt).h a' w F' H xq qa qc)⟩
theorem wT {y:Operand} {t t':Ty} {z:Int} (hz:ck (i*j)=some z) (kt:J n X N w0 ((d,.int .i64 z)::L) D tt CC (wpList P ops Q rest)) (hc:vO ops n L g d=true:=by rfl) (e:ev L x=some (.int .i64 i):=by rfl) (e':ev L y=some (.int .i64 j):=by rfl):J n X N w0 L D tt CC (wpList P ops Q (⟨some d,.binOp .mul t x y t',ty,pos,af,g⟩::rest)):=⟨λa w F H xq qa qc=>oJs F hc e e' hz (λa' F'=>(kt).h a' w F' H xq qa qc)⟩
theorem xRi {y:Operand} {t t':Ty} {z:Int} (hz:dv i j=some z) (kt:J n X N w0 ((d,.int .i64 z)::L) D tt CC (wpList P ops Q rest)) (hc:vO ops n L g d=true:=by rfl) (e:ev L x=some (.int .i64 i):=by rfl) (e':ev L y=some (.int .i64 j):=by rfl):J n X N w0 L D tt CC (wpList P ops Q (⟨some d,.binOp .quo t x y t',ty,pos,af,g⟩::rest)):=⟨λa w F H xq qa qc=>oIw F hc e e' hz (λa' F'=>(kt).h a' w F' H xq qa qc)⟩
theorem xNy {y:Operand} {t t':Ty} {z:Int} (hz:rm i j=some z) (kt:J n X N w0 ((d,.int .i64 z)::L) D tt CC (wpList P ops Q rest)) (hc:vO ops n L g d=true:=by rfl) (e:ev L x=some (.int .i64 i):=by rfl) (e':ev L y=some (.int .i64 j):=by rfl):J n X N w0 L D tt CC (wpList P ops Q (⟨some d,.binOp .rem t x y t',ty,pos,af,g⟩::rest)):=⟨λa w F H xq qa qc=>oLb F hc e e' hz (λa' F'=>(kt).h a' w F' H xq qa qc)⟩
theorem xU {y:Operand} {t t':Ty} {k:Nat} (hi:xL ((k+1:Nat):Int)) (kt:J n X N w0 ((d,.int .i64 ((k+1:Nat):Int))::L) D tt CC (wpList P ops Q rest)) (hc:vO ops n L g d=true:=by rfl) (e:ev L x=some (.int .i64 (k:Int)):=by rfl) (e':ev L y=some (.int .i64 1):=by rfl):J n X N w0 L D tt CC (wpList P ops Q (⟨some d,.binOp .add t x y t',ty,pos,af,g⟩::rest)):=⟨λa w F H xq qa qc=>oJi F hc e e' hi (λa' F'=>(kt).h a' w F' H xq qa qc)⟩
theorem xDk {y:Operand} {t t':Ty} {k:Nat} {lo:Int} (hi:xL (lo+((k+1:Nat):Int))) (kt:J n X N w0 ((d,.int .i64 (lo+((k+1:Nat):Int)))::L) D tt CC (wpList P ops Q rest)) (hc:vO ops n L g d=true:=by rfl) (e:ev L x=some (.int .i64 (lo+(k:Int))):=by rfl) (e':ev L y=some (.int .i64 1):=by rfl):J n X N w0 L D tt CC (wpList P ops Q (⟨some d,.binOp .add t x y t',ty,pos,af,g⟩::rest)):=⟨λa w F H xq qa qc=>oHq F hc e e' hi (λa' F'=>(kt).h a' w F' H xq qa qc)⟩
theorem oFq {y:Operand} {ts:Array Ty} (hh:ev L x=some (.int .i64 i)/\ev L y=some (.int .i64 j)) (kt:J n X N w0 ((d,.int .i64 (if j<i then j else i))::L) D tt CC (wpList P ops Q rest)) (hc:vO ops n L g d=true:=by rfl):J n X N w0 L D tt CC (wpList P ops Q (⟨some d,.call ⟨.builtin .min,#[x,y],ts⟩,ty,pos,af,g⟩::rest)):=⟨λa w F H xq qa qc=>oKo F hc hh.1 hh.2 (λa' F'=>(kt).h a' w F' H xq qa qc)⟩
theorem oFg {y:Operand} {ts:Array Ty} (hh:ev L x=some (.int .i64 i)/\ev L y=some (.int .i64 j)) (kt:J n X N w0 ((d,.int .i64 (if i<j then j else i))::L) D tt CC (wpList P ops Q rest)) (hc:vO ops n L g d=true:=by rfl):J n X N w0 L D tt CC (wpList P ops Q (⟨some d,.call ⟨.builtin .max,#[x,y],ts⟩,ty,pos,af,g⟩::rest)):=⟨λa w F H xq qa qc=>oJr F hc hh.1 hh.2 (λa' F'=>(kt).h a' w F' H xq qa qc)⟩
theorem oIn {y:Operand} {t t':Ty} {p q:Bool} [ht:Ug P t .bool] (hh:ev L x=some (.bool p)/\ev L y=some (.bool q)) (kt:J n X N w0 ((d,.bool (p != q))::L) D tt CC (wpList P ops Q rest)) (hc:vO ops n L g d=true:=by rfl):J n X N w0 L D tt CC (wpList P ops Q (⟨some d,.binOp .neq t x y t',ty,pos,af,g⟩::rest)):=⟨λa w F H xq qa qc=>oHh ht.h F hc hh.1 hh.2 (λa' F'=>(kt).h a' w F' H xq qa qc)⟩
theorem xZ {t:Ty} {kk b o o' off:Nat} [hp:Fd P t kk off] (hh:ev L x=some (.pointer (some ⟨b,o,none⟩))/\o+off=o') (kt:J n X N w0 ((d,.pointer (some ⟨b,o',none⟩))::L) D tt CC (wpList P ops Q rest)) (hc:vO ops n L g d=true:=by rfl):J n X N w0 L D tt CC (wpList P ops Q (⟨some d,.fieldAddr t x kk,ty,pos,af,g⟩::rest)):=⟨λa w F H xq qa qc=>xXz hp.h F hc hh.1 hh.2 (λa' F'=>(kt).h a' w F' H xq qa qc)⟩
theorem jL {α:Type} {sz:Nat} {R:ER α} {t:Ty} {v:Vl} {l:List α} {e:Ty} [ht:Ug P t (.slice e)] (h:Bo M w1 (Sl sz R) v l) (kt:xL (l.length:Int)->J n X N w0 ((d,.int .i64 l.length)::L) D tt CC (wpList P ops Q rest)) (hc:vO ops n L g d=true:=by rfl) (he:ev L x=some v:=by rfl):J n X N w0 L D tt CC (wpList P ops Q (⟨some d,.call ⟨.builtin .len,#[x],#[t]⟩,ty,pos,af,g⟩::rest)):=⟨λa w F H xq qa qc=>oL ht.h F hc he h (λa' x0 F'=>(kt x0).h a' w F' H xq qa qc)⟩
theorem jI {α:Type} {sz:Nat} {R:ER α} {t:Ty} {v:Vl} {l:List α} {e:Ty} {y:α} [ht:Ug P t (.slice e)] [qa:Sz P e sz] (h:Bo M w1 (Sl sz R) v l) (qc:ix l i=some y) (kt:∀ p,Bo M w1 (Pt sz R) p y->J n X N w0 ((d,p)::L) D tt CC (wpList P ops Q rest)) (hc:vO ops n L g d=true:=by rfl) (he:ev L x=some v:=by rfl) (hi:ev L iy=some (.int .i64 i):=by rfl):J n X N w0 L D tt CC (wpList P ops Q (⟨some d,.indexAddr t x iy,ty,pos,af,g⟩::rest)):=⟨λa w F H xq qd qe=>oI ht.h qa.h F hc he hi h qc (λa' p x0 F'=>(kt p x0).h a' w F' H xq qd qe)⟩
theorem jF {α β:Type} {sz s':Nat} {R:ER α} {R':ER β} {t:Ty} {kk:Nat} {p:Vl} {y:α} {z:β} {off:Nat} [hp:Fd P t kk off] (h:Bo M w1 (Pt sz R) p y) (hf:∀ f bi,R w1 f y bi->∃ bj,R' w1 (λj=>f (off+j)) z bj/\∀ c∈bj,c∈bi) (kt:∀ p',Bo M w1 (Pt s' R') p' z->J n X N w0 ((d,p')::L) D tt CC (wpList P ops Q rest)) (hc:vO ops n L g d=true:=by rfl) (he:ev L x=some p:=by rfl):J n X N w0 L D tt CC (wpList P ops Q (⟨some d,.fieldAddr t x kk,ty,pos,af,g⟩::rest)):=⟨λa w F H xq qa qc=>oF hp.h F hc he h hf (λa' p' x0 F'=>(kt p' x0).h a' w F' H xq qa qc)⟩
theorem aF {α β:Type} {sz:Nat} {R:ER α} {R':ER β} {t:Ty} {kk:Nat} {p:Vl} {y:α} {z:β} {off:Nat} [hp:Fd P t kk off] (h:Bo M w1 (Pt sz R) p y) (hf:∀ f bi,R w1 f y bi->∃ bj,R' w1 (λj=>f (off+j)) z bj/\∀ c∈bj,c∈bi) (kt:∀ p',Bo M w1 (Pt 1 R') p' z->J n X N w0 ((d,p')::L) D tt CC (wpList P ops Q rest)) (hc:vO ops n L g d=true:=by rfl) (he:ev L x=some p:=by rfl):J n X N w0 L D tt CC (wpList P ops Q (⟨some d,.fieldAddr t x kk,ty,pos,af,g⟩::rest)):=jF (s':=1) h hf kt hc he
theorem jN {α:Type} {sz:Nat} {R:ER α} {p:Vl} {y:α} (h:Bo M w1 (Pt sz R) p y) (kt:J n X N w0 ((d,p)::L) D tt CC (wpList P ops Q rest)) (hc:vO ops n L g d=true:=by rfl) (e:ev L x=some p:=by rfl):J n X N w0 L D tt CC (wpList P ops Q (⟨some d,.nilCheck x,ty,pos,af,g⟩::rest)):=⟨λa w F H xq qa qc=>oN F hc e h (λa' F'=>(kt).h a' w F' H xq qa qc)⟩
theorem aP {t:Ty} {p:Vl} {y:Int} [qa:Ag P t false] (h:Bo M w1 (Pt 1 xF) p y) (kt:xL y->J n X N w0 ((d,.int .i64 y)::L) D tt CC (wpList P ops Q rest)) (hc:vO ops n L g d=true:=by rfl) (he:ev L x=some p:=by rfl) (s:∀ {w},Sep X N w0 w D->Sm M w1 w:=by exact Sep.sm):J n X N w0 L D tt CC (wpList P ops Q (⟨some d,.load t x,ty,pos,af,g⟩::rest)):=⟨λa w F H xq qc qd=>olI qa.h F hc he (s H) h (λa' x0 F'=>(kt x0).h a' w F' H xq qc qd)⟩
theorem jlB {t:Ty} {p:Vl} {y:Bool} [qa:Ag P t false] (h:Bo M w1 (Pt 1 aC) p y) (kt:J n X N w0 ((d,.bool y)::L) D tt CC (wpList P ops Q rest)) (hc:vO ops n L g d=true:=by rfl) (he:ev L x=some p:=by rfl) (s:∀ {w},Sep X N w0 w D->Sm M w1 w:=by exact Sep.sm):J n X N w0 L D tt CC (wpList P ops Q (⟨some d,.load t x,ty,pos,af,g⟩::rest)):=⟨λa w F H xq qc qd=>olB qa.h F hc he (s H) h (λa' F'=>(kt).h a' w F' H xq qc qd)⟩
theorem aR {α:Type} {sz:Nat} {R:ER α} {t:Ty} {p:Vl} {y:List α} [qa:Ag P t false] (h:Bo M w1 (Pt 1 (kP sz R)) p y) (kt:∀ v,Bo M w1 (Sl sz R) v y->J n X N w0 ((d,v)::L) D tt CC (wpList P ops Q rest)) (hc:vO ops n L g d=true:=by rfl) (he:ev L x=some p:=by rfl) (s:∀ {w},Sep X N w0 w D->Sm M w1 w:=by exact Sep.sm):J n X N w0 L D tt CC (wpList P ops Q (⟨some d,.load t x,ty,pos,af,g⟩::rest)):=⟨λa w F H xq qc qd=>olS qa.h F hc he (s H) h (λa' v x0 F'=>(kt v x0).h a' w F' H xq qc qd)⟩
theorem jlA {α:Type} {sz:Nat} {R:ER α} [hR:FrC sz R] {t:Ty} {p:Vl} {y:α} [qa:Ag P t true] [qc:Sz P t sz] (h:Bo M w1 (Pt sz R) p y) (kt:∀ v,Bo M w1 (qS sz R) v y->J n X N w0 ((d,v)::L) D tt CC (wpList P ops Q rest)) (hc:vO ops n L g d=true:=by rfl) (he:ev L x=some p:=by rfl) (s:∀ {w},Sep X N w0 w D->Sm M w1 w:=by exact Sep.sm):J n X N w0 L D tt CC (wpList P ops Q (⟨some d,.load t x,ty,pos,af,g⟩::rest)):=⟨λa w F H xq qd qe=>olA qa.h qc.h F hc he (s H) h (λa' v x0 F'=>(kt v x0).h a' w F' H xq qd qe)⟩
theorem jC {α:Type} {sz:Nat} {R:ER α} [hR:FrC sz R] {t e:Ty} {v:Vl} {l r:List α} {lo hi:Option Operand} [ht:Ug P t (.slice e)] [qa:Sz P e sz] (qc:match lo with | some y=>ev L y=some (.int .i64 i) | none=>i=0) (qd:match hi with | some y=>ev L y=some (.int .i64 j) | none=>j=l.length) (h:Bo M w1 (Sl sz R) v l) (hs:sl l i j=some r) (kt:∀ v',Bo M w1 (Sl sz R) v' r->J n X N w0 ((d,v')::L) D tt CC (wpList P ops Q rest)) (hc:vO ops n L g d=true:=by rfl) (he:ev L x=some v:=by rfl):J n X N w0 L D tt CC (wpList P ops Q (⟨some d,.slice t x lo hi none,ty,pos,af,g⟩::rest)):=⟨λa w F H xq qe qf=>oC ht.h qa.h F hc he qc qd h hs (λa' v' x0 F'=>(kt v' x0).h a' w F' H xq qe qf)⟩
theorem lM {α:Type} {sz:Nat} {R:ER α} {t:Ty} {v:Vl} {l:List α} {e:Ty} {y:α} [ht:Ug P t (.slice e)] [qa:Sz P e sz] (h:Bo M w1 (Sl sz R) v l) (qc:ix l i=some y) (kt:∀ p,Bo M w1 (Pt sz R) p y->J n X N w0 ((d,p)::L) D tt CC (Gq P ops X N w0 D K rest)) (hc:vO ops n L g d=true:=by rfl) (he:ev L x=some v:=by rfl) (hi:ev L iy=some (.int .i64 i):=by rfl):J n X N w0 L D tt CC (Gq P ops X N w0 D K (⟨some d,.indexAddr t x iy,ty,pos,af,g⟩::rest)):=⟨λa w F H xq qd qe=>qI ht.h qa.h F hc he hi h qc (λa' p x0 F'=>(kt p x0).h a' w F' H xq qd qe)⟩
theorem jqF {α β:Type} {sz s':Nat} {R:ER α} {R':ER β} {t:Ty} {kk:Nat} {p:Vl} {y:α} {z:β} {off:Nat} [hp:Fd P t kk off] (h:Bo M w1 (Pt sz R) p y) (hf:∀ f bi,R w1 f y bi->∃ bj,R' w1 (λj=>f (off+j)) z bj/\∀ c∈bj,c∈bi) (kt:∀ p',Bo M w1 (Pt s' R') p' z->J n X N w0 ((d,p')::L) D tt CC (Gq P ops X N w0 D K rest)) (hc:vO ops n L g d=true:=by rfl) (he:ev L x=some p:=by rfl):J n X N w0 L D tt CC (Gq P ops X N w0 D K (⟨some d,.fieldAddr t x kk,ty,pos,af,g⟩::rest)):=⟨λa w F H xq qa qc=>qF hp.h F hc he h hf (λa' p' x0 F'=>(kt p' x0).h a' w F' H xq qa qc)⟩
theorem cI {α β:Type} {sz:Nat} {R:ER α} {R':ER β} {t:Ty} {kk:Nat} {p:Vl} {y:α} {z:β} {off:Nat} [hp:Fd P t kk off] (h:Bo M w1 (Pt sz R) p y) (hf:∀ f bi,R w1 f y bi->∃ bj,R' w1 (λj=>f (off+j)) z bj/\∀ c∈bj,c∈bi) (kt:∀ p',Bo M w1 (Pt 1 R') p' z->J n X N w0 ((d,p')::L) D tt CC (Gq P ops X N w0 D K rest)) (hc:vO ops n L g d=true:=by rfl) (he:ev L x=some p:=by rfl):J n X N w0 L D tt CC (Gq P ops X N w0 D K (⟨some d,.fieldAddr t x kk,ty,pos,af,g⟩::rest)):=jqF (s':=1) h hf kt hc he
theorem jqN {α:Type} {sz:Nat} {R:ER α} {p:Vl} {y:α} (h:Bo M w1 (Pt sz R) p y) (kt:J n X N w0 ((d,p)::L) D tt CC (Gq P ops X N w0 D K rest)) (hc:vO ops n L g d=true:=by rfl) (e:ev L x=some p:=by rfl):J n X N w0 L D tt CC (Gq P ops X N w0 D K (⟨some d,.nilCheck x,ty,pos,af,g⟩::rest)):=⟨λa w F H xq qa qc=>qN F hc e h (λa' F'=>(kt).h a' w F' H xq qa qc)⟩
theorem jqL {α:Type} {sz:Nat} {R:ER α} {t:Ty} {v:Vl} {l:List α} {e:Ty} [ht:Ug P t (.slice e)] (h:Bo M w1 (Sl sz R) v l) (kt:xL (l.length:Int)->J n X N w0 ((d,.int .i64 l.length)::L) D tt CC (Gq P ops X N w0 D K rest)) (hc:vO ops n L g d=true:=by rfl) (he:ev L x=some v:=by rfl):J n X N w0 L D tt CC (Gq P ops X N w0 D K (⟨some d,.call ⟨.builtin .len,#[x],#[t]⟩,ty,pos,af,g⟩::rest)):=⟨λa w F H xq qa qc=>qL ht.h F hc he h (λa' x0 F'=>(kt x0).h a' w F' H xq qa qc)⟩
theorem kI {t:Ty} {p:Vl} {y:Int} [qa:Ag P t false] (h:Bo M w1 (Pt 1 xF) p y) (kt:xL y->J n X N w0 ((d,.int .i64 y)::L) D tt CC (Gq P ops X N w0 D K rest)) (hc:vO ops n L g d=true:=by rfl) (he:ev L x=some p:=by rfl) (s:∀ {w},Sep X N w0 w D->∀ w',Below w.heap.size w w'->Sm M w1 w':=by exact Sep.q):J n X N w0 L D tt CC (Gq P ops X N w0 D K (⟨some d,.load t x,ty,pos,af,g⟩::rest)):=⟨λa w F H xq qc qd=>qlI qa.h F hc he (s H) h (λa' x0 F'=>(kt x0).h a' w F' H xq qc qd)⟩
theorem oKl {t:Ty} {p:Vl} {y:Bool} [qa:Ag P t false] (h:Bo M w1 (Pt 1 aC) p y) (kt:J n X N w0 ((d,.bool y)::L) D tt CC (Gq P ops X N w0 D K rest)) (hc:vO ops n L g d=true:=by rfl) (he:ev L x=some p:=by rfl) (s:∀ {w},Sep X N w0 w D->∀ w',Below w.heap.size w w'->Sm M w1 w':=by exact Sep.q):J n X N w0 L D tt CC (Gq P ops X N w0 D K (⟨some d,.load t x,ty,pos,af,g⟩::rest)):=⟨λa w F H xq qc qd=>qlB qa.h F hc he (s H) h (λa' F'=>(kt).h a' w F' H xq qc qd)⟩
theorem eZ {α:Type} {sz:Nat} {R:ER α} {t:Ty} {p:Vl} {y:List α} [qa:Ag P t false] (h:Bo M w1 (Pt 1 (kP sz R)) p y) (kt:∀ v,Bo M w1 (Sl sz R) v y->J n X N w0 ((d,v)::L) D tt CC (Gq P ops X N w0 D K rest)) (hc:vO ops n L g d=true:=by rfl) (he:ev L x=some p:=by rfl) (s:∀ {w},Sep X N w0 w D->∀ w',Below w.heap.size w w'->Sm M w1 w':=by exact Sep.q):J n X N w0 L D tt CC (Gq P ops X N w0 D K (⟨some d,.load t x,ty,pos,af,g⟩::rest)):=⟨λa w F H xq qc qd=>qlS qa.h F hc he (s H) h (λa' v x0 F'=>(kt v x0).h a' w F' H xq qc qd)⟩
theorem xJu {α:Type} {sz:Nat} {R:ER α} [hR:FrC sz R] {t:Ty} {p:Vl} {y:α} [qa:Ag P t true] [qc:Sz P t sz] (h:Bo M w1 (Pt sz R) p y) (kt:∀ v,Bo M w1 (qS sz R) v y->J n X N w0 ((d,v)::L) D tt CC (Gq P ops X N w0 D K rest)) (hc:vO ops n L g d=true:=by rfl) (he:ev L x=some p:=by rfl) (s:∀ {w},Sep X N w0 w D->∀ w',Below w.heap.size w w'->Sm M w1 w':=by exact Sep.q):J n X N w0 L D tt CC (Gq P ops X N w0 D K (⟨some d,.load t x,ty,pos,af,g⟩::rest)):=⟨λa w F H xq qd qe=>qlA qa.h qc.h F hc he (s H) h (λa' v x0 F'=>(kt v x0).h a' w F' H xq qd qe)⟩
theorem pQ {α:Type} {sz:Nat} {R:ER α} {t:Ty} {v:Vl} {l:List α} {e:Ty} {y:α} [ht:Ug P t (.slice e)] [qa:Sz P e sz] (ii:Nat) (qc:ops[ii]?=some ⟨some d,.indexAddr t x iy,ty,pos,af,g⟩) (h:Bo M w1 (Sl sz R) v l) (qd:ix l i=some y) (kt:∀ p,Bo M w1 (Pt sz R) p y->J n X N w0 ((d,p)::L) D tt CC (zB P ops K (Sm Mv) f (ls.setIfInBounds ii true))) (hc:vO ops n L g d=true:=by rfl) (he:ev L x=some v:=by rfl) (hi:ev L iy=some (.int .i64 i):=by rfl) (hb:bqc ops ls ii true=true:=by kernel_rfl):J n X N w0 L D tt CC (zB P ops K (Sm Mv) (f+1) ls):=⟨λa w F H xq qe qf=>bq hb qc (vI ht.h qa.h F hc he hi h qd (λa' p x0 F'=>(kt p x0).h a' w F' H xq qe qf))⟩
theorem jvF {α β:Type} {sz s':Nat} {R:ER α} {R':ER β} {t:Ty} {kk:Nat} {p:Vl} {y:α} {z:β} {off:Nat} [hp:Fd P t kk off] (ii:Nat) (qa:ops[ii]?=some ⟨some d,.fieldAddr t x kk,ty,pos,af,g⟩) (h:Bo M w1 (Pt sz R) p y) (hf:∀ f bi,R w1 f y bi->∃ bj,R' w1 (λj=>f (off+j)) z bj/\∀ c∈bj,c∈bi) (kt:∀ p',Bo M w1 (Pt s' R') p' z->J n X N w0 ((d,p')::L) D tt CC (zB P ops K (Sm Mv) f (ls.setIfInBounds ii true))) (hc:vO ops n L g d=true:=by rfl) (he:ev L x=some p:=by rfl) (hb:bqc ops ls ii true=true:=by kernel_rfl):J n X N w0 L D tt CC (zB P ops K (Sm Mv) (f+1) ls):=⟨λa w F H xq qc qd=>bq hb qa (vF hp.h F hc he h hf (λa' p' x0 F'=>(kt p' x0).h a' w F' H xq qc qd))⟩
theorem iO {α β:Type} {sz:Nat} {R:ER α} {R':ER β} {t:Ty} {kk:Nat} {p:Vl} {y:α} {z:β} {off:Nat} [hp:Fd P t kk off] (ii:Nat) (qa:ops[ii]?=some ⟨some d,.fieldAddr t x kk,ty,pos,af,g⟩) (h:Bo M w1 (Pt sz R) p y) (hf:∀ f bi,R w1 f y bi->∃ bj,R' w1 (λj=>f (off+j)) z bj/\∀ c∈bj,c∈bi) (kt:∀ p',Bo M w1 (Pt 1 R') p' z->J n X N w0 ((d,p')::L) D tt CC (zB P ops K (Sm Mv) f (ls.setIfInBounds ii true))) (hc:vO ops n L g d=true:=by rfl) (he:ev L x=some p:=by rfl) (hb:bqc ops ls ii true=true:=by kernel_rfl):J n X N w0 L D tt CC (zB P ops K (Sm Mv) (f+1) ls):=jvF (s':=1) ii qa h hf kt hc he hb
theorem jvN {α:Type} {sz:Nat} {R:ER α} {p:Vl} {y:α} (ii:Nat) (qa:ops[ii]?=some ⟨some d,.nilCheck x,ty,pos,af,g⟩) (h:Bo M w1 (Pt sz R) p y) (kt:J n X N w0 ((d,p)::L) D tt CC (zB P ops K (Sm Mv) f (ls.setIfInBounds ii true))) (hc:vO ops n L g d=true:=by rfl) (e:ev L x=some p:=by rfl) (hb:bqc ops ls ii true=true:=by kernel_rfl):J n X N w0 L D tt CC (zB P ops K (Sm Mv) (f+1) ls):=⟨λa w F H xq qc qd=>bq hb qa (vN F hc e h (λa' F'=>(kt).h a' w F' H xq qc qd))⟩
theorem jvL {α:Type} {sz:Nat} {R:ER α} {t:Ty} {v:Vl} {l:List α} {e:Ty} [ht:Ug P t (.slice e)] (ii:Nat) (qa:ops[ii]?=some ⟨some d,.call ⟨.builtin .len,#[x],#[t]⟩,ty,pos,af,g⟩) (h:Bo M w1 (Sl sz R) v l) (kt:xL (l.length:Int)->J n X N w0 ((d,.int .i64 l.length)::L) D tt CC (zB P ops K (Sm Mv) f (ls.setIfInBounds ii true))) (hc:vO ops n L g d=true:=by rfl) (he:ev L x=some v:=by rfl) (hb:bqc ops ls ii true=true:=by kernel_rfl):J n X N w0 L D tt CC (zB P ops K (Sm Mv) (f+1) ls):=⟨λa w F H xq qc qd=>bq hb qa (vL ht.h F hc he h (λa' x0 F'=>(kt x0).h a' w F' H xq qc qd))⟩
theorem aW {t:Ty} {p:Vl} {y:Int} [qa:Ag P t false] (ii:Nat) (qc:ops[ii]?=some ⟨some d,.load t x,ty,pos,af,g⟩) (h:Bo M w1 (Pt 1 xF) p y) (kt:xL y->J n X N w0 ((d,.int .i64 y)::L) D tt CC (zB P ops K (Sm Mv) f (ls.setIfInBounds ii true))) (hc:vO ops n L g d=true:=by rfl) (he:ev L x=some p:=by rfl) (s:∀ {w},Sep X N w0 w D->∀ w',Sm Mv w w'->Sm M w1 w':=by exact Sep.v) (hb:bqc ops ls ii true=true:=by kernel_rfl):J n X N w0 L D tt CC (zB P ops K (Sm Mv) (f+1) ls):=⟨λa w F H xq qd qe=>bq hb qc (vlI qa.h F hc he (s H) h (λa' x0 F'=>(kt x0).h a' w F' H xq qd qe))⟩
theorem jvlB {t:Ty} {p:Vl} {y:Bool} [qa:Ag P t false] (ii:Nat) (qc:ops[ii]?=some ⟨some d,.load t x,ty,pos,af,g⟩) (h:Bo M w1 (Pt 1 aC) p y) (kt:J n X N w0 ((d,.bool y)::L) D tt CC (zB P ops K (Sm Mv) f (ls.setIfInBounds ii true))) (hc:vO ops n L g d=true:=by rfl) (he:ev L x=some p:=by rfl) (s:∀ {w},Sep X N w0 w D->∀ w',Sm Mv w w'->Sm M w1 w':=by exact Sep.v) (hb:bqc ops ls ii true=true:=by kernel_rfl):J n X N w0 L D tt CC (zB P ops K (Sm Mv) (f+1) ls):=⟨λa w F H xq qd qe=>bq hb qc (vlB qa.h F hc he (s H) h (λa' F'=>(kt).h a' w F' H xq qd qe))⟩
theorem rK {α:Type} {sz:Nat} {R:ER α} {t:Ty} {p:Vl} {y:List α} [qa:Ag P t false] (ii:Nat) (qc:ops[ii]?=some ⟨some d,.load t x,ty,pos,af,g⟩) (h:Bo M w1 (Pt 1 (kP sz R)) p y) (kt:∀ v,Bo M w1 (Sl sz R) v y->J n X N w0 ((d,v)::L) D tt CC (zB P ops K (Sm Mv) f (ls.setIfInBounds ii true))) (hc:vO ops n L g d=true:=by rfl) (he:ev L x=some p:=by rfl) (s:∀ {w},Sep X N w0 w D->∀ w',Sm Mv w w'->Sm M w1 w':=by exact Sep.v) (hb:bqc ops ls ii true=true:=by kernel_rfl):J n X N w0 L D tt CC (zB P ops K (Sm Mv) (f+1) ls):=⟨λa w F H xq qd qe=>bq hb qc (vlS qa.h F hc he (s H) h (λa' v x0 F'=>(kt v x0).h a' w F' H xq qd qe))⟩
theorem jvlP {α:Type} {sz:Nat} {R:ER α} {t:Ty} {p:Vl} {y:α} [qa:Ag P t false] (ii:Nat) (qc:ops[ii]?=some ⟨some d,.load t x,ty,pos,af,g⟩) (h:Bo M w1 (Pt 1 (RP sz R)) p y) (kt:∀ v,Bo M w1 (Pt sz R) v y->J n X N w0 ((d,v)::L) D tt CC (zB P ops K (Sm Mv) f (ls.setIfInBounds ii true))) (hc:vO ops n L g d=true:=by rfl) (he:ev L x=some p:=by rfl) (s:∀ {w},Sep X N w0 w D->∀ w',Sm Mv w w'->Sm M w1 w':=by exact Sep.v) (hb:bqc ops ls ii true=true:=by kernel_rfl):J n X N w0 L D tt CC (zB P ops K (Sm Mv) (f+1) ls):=⟨λa w F H xq qd qe=>bq hb qc (vlP qa.h F hc he (s H) h (λa' v x0 F'=>(kt v x0).h a' w F' H xq qd qe))⟩
theorem xFg {α:Type} {sz:Nat} {R:ER α} [hR:FrC sz R] {t:Ty} {p:Vl} {y:α} [qa:Ag P t true] [qc:Sz P t sz] (ii:Nat) (qd:ops[ii]?=some ⟨some d,.load t x,ty,pos,af,g⟩) (h:Bo M w1 (Pt sz R) p y) (kt:∀ v,Bo M w1 (qS sz R) v y->J n X N w0 ((d,v)::L) D tt CC (zB P ops K (Sm Mv) f (ls.setIfInBounds ii true))) (hc:vO ops n L g d=true:=by rfl) (he:ev L x=some p:=by rfl) (s:∀ {w},Sep X N w0 w D->∀ w',Sm Mv w w'->Sm M w1 w':=by exact Sep.v) (hb:bqc ops ls ii true=true:=by kernel_rfl):J n X N w0 L D tt CC (zB P ops K (Sm Mv) (f+1) ls):=⟨λa w F H xq qe qf=>bq hb qd (vlA qa.h qc.h F hc he (s H) h (λa' v x0 F'=>(kt v x0).h a' w F' H xq qe qf))⟩
theorem jR0 {α:Type} {sz:Nat} (R:ER α) [hR:FrC sz R] {t e:Ty} [ht:Ug P t (.slice e)] [qa:Sz P e sz] (kt:∀ v,J n X N w0 ((d,v)::L) (rl sz R e v []::D) tt CC (wpList P ops Q rest)) (hc:vO ops n L g d=true:=by rfl):J n X N w0 L D tt CC (wpList P ops Q (⟨some d,.buildSlice t 0 #[],ty,pos,af,g⟩::rest)):=⟨λa w F H xq qc qd=>oR0 ht.h qa.h F hc H (λa' w' v H' F'=>(kt v).h a' w' F' H' xq qc qd)⟩
theorem lQ {α:Type} {sz:Nat} {R:ER α} [hR:FrC sz R] {t e:Ty} {z:Vl} {v:Vl} {y:α} [ht:Ug P t (.slice e)] [qa:Sz P e sz] [hz:Zv P e z] (h:∀ {w},Sep X N w0 w D->Eo N0 w sz R v y) (kt:∀ v',J n X N w0 ((d,v')::L) (rl sz R e v' [y]::D) tt CC (wpList P ops Q rest)) (qc:z.cells.size=sz:=by rfl) (hb:(Nat.blt 0 sz && Nat.ble sz 1000)=true:=by rfl) (hc:vO ops n L g d=true:=by rfl) (hx:ev L x=some v:=by rfl):J n X N w0 L D tt CC (wpList P ops Q (⟨some d,.buildSlice t 1 #[(0,x)],ty,pos,af,g⟩::rest)):=⟨λa w F H xq qd qe=>oR1z ht.h qa.h hz.h qc hb F hc hx H (h H) (λa' w' v' H' F'=>(kt v').h a' w' F' H' xq qd qe)⟩
theorem jR1 {α:Type} {sz:Nat} {R:ER α} [hR:FrC sz R] {t e:Ty} {z:Vl} {v:Vl} {y:α} [ht:Ug P t (.slice e)] [qa:Sz P e sz] [hz:Zv P e z] (h1:∀ c,N1 c->N c) (h:∀ {w},Sep X N w0 w D->Eo N1 w sz R v y) (kt:∀ v',J n X N w0 ((d,v')::L) (rw N1 sz R e v' [y]::D) tt CC (wpList P ops Q rest)) (qc:z.cells.size=sz:=by rfl) (hb:(Nat.blt 0 sz && Nat.ble sz 1000)=true:=by rfl) (hc:vO ops n L g d=true:=by rfl) (hx:ev L x=some v:=by rfl):J n X N w0 L D tt CC (wpList P ops Q (⟨some d,.buildSlice t 1 #[(0,x)],ty,pos,af,g⟩::rest)):=⟨λa w F H xq qd qe=>oR1 ht.h qa.h hz.h qc hb F hc hx H h1 (h H) (λa' w' v' H' F'=>(kt v').h a' w' F' H' xq qd qe)⟩
theorem oKf {α:Type} {sz:Nat} {R:ER α} [hR:FrC sz R] {t e:Ty} {z:Vl} {v:Vl} {y:α} [ht:Ug P t (.slice e)] [qa:Sz P e sz] [hz:Zv P e z] (h1:∀ c,N1 c->N c) (hA:∀ c,A.N c->N1 c) (h:∀ {w},Sep X N w0 w (A::D)->∀ {N':Nat->Prop},(∀ c,N1 c->N' c)->Rdg N' w A->Eo N' w sz R v y) (kt:∀ v',J n X N w0 ((d,v')::L) (rw N1 sz R e v' [y]::D) tt CC (wpList P ops Q rest)) (qc:z.cells.size=sz:=by rfl) (hb:(Nat.blt 0 sz && Nat.ble sz 1000)=true:=by rfl) (hc:vO ops n L g d=true:=by rfl) (hx:ev L x=some v:=by rfl):J n X N w0 L (A::D) tt CC (wpList P ops Q (⟨some d,.buildSlice t 1 #[(0,x)],ty,pos,af,g⟩::rest)):=⟨λa w F H xq qd qe=>oR1c ht.h qa.h hz.h qc hb F hc hx H h1 hA (h H) (λa' w' v' H' F'=>(kt v').h a' w' F' H' xq qd qe)⟩
theorem uL {α:Type} {sz:Nat} {R:ER α} [hR:FrC sz R] {V:VR α} [hV:VF V] {t e:Ty} {z:Vl} {v:Vl} {y:α} [ht:Ug P t (.slice e)] [qa:Sz P e sz] [hz:Zv P e z] (h:∀ {w},Sep X N w0 w (ow (V:=V) v y::D)->∀ {bs},Rd V w v y bs->El sz R w v y bs) (kt:∀ v',J n X N w0 ((d,v')::L) (rl sz R e v' [y]::D) tt CC (wpList P ops Q rest)) (qc:z.cells.size=sz:=by rfl) (hb:(Nat.blt 0 sz && Nat.ble sz 1000)=true:=by rfl) (hc:vO ops n L g d=true:=by rfl) (hx:ev L x=some v:=by rfl):J n X N w0 L (ow (V:=V) v y::D) tt CC (wpList P ops Q (⟨some d,.buildSlice t 1 #[(0,x)],ty,pos,af,g⟩::rest)):=⟨λa w F H xq qd qe=>oR1L ht.h qa.h hz.h qc hb F hc hx H (h H) (λa' w' v' H' F'=>(kt v').h a' w' F' H' xq qd qe)⟩
theorem jP {α:Type} {sz:Nat} {R:ER α} [hR:FrC sz R] {y:Operand} {t E E':Ty} {z:Vl} {bytes:Nat} {v u:Vl} {l m r:List α} [ht:Ug P t (.slice E)] [qa:If P E z sz bytes] (qc:ap l m=some r) (kt:∀ v',J n X N w0 ((d,v')::L) (rw N1 sz R E v' r::D) tt CC (wpList P ops Q rest)) (qd:z.cells.size=sz:=by rfl) (hb:(Nat.blt 0 sz && (Nat.ble bytes 1024 && Nat.blt 0 bytes))=true:=by rfl) (hc:vO ops n L g d=true:=by rfl) (hx:ev L x=some v:=by rfl) (hy:ev L y=some u:=by rfl):J n X N w0 L (rw N1 sz R E v l::rw N1 sz R E' u m::D) tt CC (wpList P ops Q (⟨some d,.call ⟨.builtin .append,#[x,y],#[t,t]⟩,ty,pos,af,g⟩::rest)):=⟨λa w F H xq qe qf=>oP ht.h qa.h qd hb F hc hx hy H qc (λa' w' v' H' F'=>(kt v').h a' w' F' H' xq qe qf)⟩
theorem jPL {α:Type} {sz:Nat} {R:ER α} [hR:FrC sz R] {y:Operand} {t E E':Ty} {z:Vl} {bytes:Nat} {v u:Vl} {l m r:List α} [ht:Ug P t (.slice E)] [qa:If P E z sz bytes] (qc:ap l m=some r) (kt:∀ v',J n X N w0 ((d,v')::L) (rl sz R E v' r::D) tt CC (wpList P ops Q rest)) (qd:z.cells.size=sz:=by rfl) (hb:(Nat.blt 0 sz && (Nat.ble bytes 1024 && Nat.blt 0 bytes))=true:=by rfl) (hc:vO ops n L g d=true:=by rfl) (hx:ev L x=some v:=by rfl) (hy:ev L y=some u:=by rfl):J n X N w0 L (rl sz R E v l::rl sz R E' u m::D) tt CC (wpList P ops Q (⟨some d,.call ⟨.builtin .append,#[x,y],#[t,t]⟩,ty,pos,af,g⟩::rest)):=⟨λa w F H xq qe qf=>oPL ht.h qa.h qd hb F hc hx hy H qc (λa' w' v' H' F'=>(kt v').h a' w' F' H' xq qe qf)⟩
theorem jPf {α:Type} {sz:Nat} {R:ER α} [hR:FrC sz R] [hf:Flat R] {y:Operand} {t E:Ty} {z:Vl} {bytes:Nat} {v u:Vl} {l m r:List α} [ht:Ug P t (.slice E)] [qa:If P E z sz bytes] (hs:∀ {w},Sep X N w0 w (rw N1 sz R E v l::D)->Bo (All w) w (Sl sz R) u m) (qc:ap l m=some r) (kt:∀ v',J n X N w0 ((d,v')::L) (rw N1 sz R E v' r::D) tt CC (wpList P ops Q rest)) (qd:z.cells.size=sz:=by rfl) (hb:(Nat.blt 0 sz && (Nat.ble bytes 1024 && Nat.blt 0 bytes))=true:=by rfl) (hc:vO ops n L g d=true:=by rfl) (hx:ev L x=some v:=by rfl) (hy:ev L y=some u:=by rfl):J n X N w0 L (rw N1 sz R E v l::D) tt CC (wpList P ops Q (⟨some d,.call ⟨.builtin .append,#[x,y],#[t,t]⟩,ty,pos,af,g⟩::rest)):=⟨λa w F H xq qe qf=>oPf ht.h qa.h qd hb F hc hx hy H (hs H) qc (λa' w' v' H' F'=>(kt v').h a' w' F' H' xq qe qf)⟩
theorem jT {α:Type} {sz:Nat} {R:ER α} [hR:FrC sz R] {hi:Operand} {t E:Ty} {v:Vl} {l r:List α} [ht:Ug P t (.slice E)] [qa:Sz P E sz] (hs:sl l 0 j=some r) (kt:∀ v',J n X N w0 ((d,v')::L) (rw N1 sz R E v' r::D) tt CC (wpList P ops Q rest)) (hc:vO ops n L g d=true:=by rfl) (hx:ev L x=some v:=by rfl) (qc:ev L hi=some (.int .i64 j):=by rfl):J n X N w0 L (rw N1 sz R E v l::D) tt CC (wpList P ops Q (⟨some d,.slice t x none (some hi) none,ty,pos,af,g⟩::rest)):=⟨λa w F H xq qd qe=>oT ht.h qa.h F hc hx qc H hs (λa' v' H' F'=>(kt v').h a' w F' H' xq qd qe)⟩
theorem jW {y:Operand} {t:Ty} {b o:Nat} {v:Vl} {cs cs':List Vl} {T:Ty} [qa:Sz P t 1] (hh:ev L x=some (.pointer (some ⟨b,o,none⟩))/\ev L y=some v/\cs.set o v=cs') (kt:J n X N w0 L (bx b cs' T::D) tt CC (wpList P ops Q rest)) (hc:gok ops L g=true:=by rfl) (hv:∀ {w},Sep X N w0 w (bx b cs T::D)->v.oneCell'=true:=by intros;rfl) (ho:Nat.blt o cs.length=true:=by rfl):J n X N w0 L (bx b cs T::D) tt CC (wpList P ops Q (⟨none,.store t x y,ty,pos,af,g⟩::rest)):=⟨λa w F H xq qc qd=>oW qa.h F hc hh.1 hh.2.1 H (hv H) ho hh.2.2 (λw' H'=>(kt).h a w' F H' xq qc qd)⟩
theorem zX {y:Operand} {t:Ty} {b o:Nat} {vs cs cs':List Vl} {T:Ty} {szv:Nat} [qa:Sz P t szv] (hh:ev L x=some (.pointer (some ⟨b,o,none⟩))/\ev L y=some (.agg vs.toArray)/\cs.take o++vs++cs.drop (o+vs.length)=cs') (kt:J n X N w0 L (bx b cs' T::D) tt CC (wpList P ops Q rest)) (qc:vs.length=szv:=by rfl) (hc:gok ops L g=true:=by rfl) (hv:∀ {w},Sep X N w0 w (bx b cs T::D)->∀ v∈vs,v.oneCell'=true:=by intro _ _;repeat (first | exact on | refine oc rfl ?_)) (ho:Nat.ble (o+vs.length) cs.length=true:=by rfl):J n X N w0 L (bx b cs T::D) tt CC (wpList P ops Q (⟨none,.store t x y,ty,pos,af,g⟩::rest)):=⟨λa w F H xq qd qe=>oWA (λw=>qc ▸ qa.h w) F hc hh.1 hh.2.1 H (hv H) ho hh.2.2 (λw' H'=>(kt).h a w' F H' xq qd qe)⟩
theorem jS {α:Type} {R:ER α} [hR:FrC 1 R] {y:Operand} {t E:Ty} {v p u:Vl} {l l':List α} {i:Nat} {z:α} [qa:Sz P t 1] (hp:RPt v 1 i p) (hi:i<l.length) (hz:∀ {w},Sep X N w0 w (rw N1 1 R E v l::D)->Eo N1 w 1 R u z) (hl:l.set i z=l') (kt:J n X N w0 L (rw N1 1 R E v l'::D) tt CC (wpList P ops Q rest)) (hc:gok ops L g=true:=by rfl) (hx:ev L x=some p:=by rfl) (hy:ev L y=some u:=by rfl) (hone:∀ {w},Sep X N w0 w (rw N1 1 R E v l::D)->u.oneCell'=true:=by intros;rfl):J n X N w0 L (rw N1 1 R E v l::D) tt CC (wpList P ops Q (⟨none,.store t x y,ty,pos,af,g⟩::rest)):=⟨λa w F H xq qc qd=>oS qa.h F hc hx hy H hp hi (hz H) (hone H) hl (λw' H'=>(kt).h a w' F H' xq qc qd)⟩
theorem jSc {α:Type} {R:ER α} [hR:FrC 1 R] {y:Operand} {t E:Ty} {v p u:Vl} {l l':List α} {i:Nat} {z:α} [qa:Sz P t 1] (hp:RPt v 1 i p) (hi:i<l.length) (hA:∀ c,A.N c->N1 c) (hz:∀ {w},Sep X N w0 w (rw N1 1 R E v l::A::D)->∀ {N':Nat->Prop},(∀ c,N1 c->N' c)->Rdg N' w A->Eo N' w 1 R u z) (hl:l.set i z=l') (kt:J n X N w0 L (rw N1 1 R E v l'::D) tt CC (wpList P ops Q rest)) (hc:gok ops L g=true:=by rfl) (hx:ev L x=some p:=by rfl) (hy:ev L y=some u:=by rfl) (hone:∀ {w},Sep X N w0 w (rw N1 1 R E v l::A::D)->u.oneCell'=true:=by intros;rfl):J n X N w0 L (rw N1 1 R E v l::A::D) tt CC (wpList P ops Q (⟨none,.store t x y,ty,pos,af,g⟩::rest)):=⟨λa w F H xq qc qd=>oSc qa.h F hc hx hy H hp hi hA (hz H) (hone H) hl (λw' H'=>(kt).h a w' F H' xq qc qd)⟩
theorem jSo {y:Operand} {t:Ty} {v p:Vl} {l l':List Int} {i:Nat} {z:Int} [qa:Sz P t 1] (hp:OPt v i p) (hi:i<l.length) (hz:xL z) (hl:l.set i z=l') (kt:J n X N w0 L (ow (V:=Sl 1 xF) v l'::D) tt CC (wpList P ops Q rest)) (hc:gok ops L g=true:=by rfl) (hx:ev L x=some p:=by rfl) (hy:ev L y=some (.int .i64 z):=by rfl):J n X N w0 L (ow (V:=Sl 1 xF) v l::D) tt CC (wpList P ops Q (⟨none,.store t x y,ty,pos,af,g⟩::rest)):=⟨λa w F H xq qc qd=>oSo qa.h F hc hx hy H hp hi hz hl (λw' H'=>(kt).h a w' F H' xq qc qd)⟩
theorem jSX {α:Type} {sz:Nat} {R:ER α} [hR:FrC sz R] {y:Operand} {t E:Ty} {v p q:Vl} {vs:List Vl} {l l':List α} {i f:Nat} {u z:α} (hq:∀ {w},Sep X N w0 w (rw N1 sz R E v l::A::D)->Stv P t q vs) (hp:RPO v sz i f p) (hi:l[i]?=some u) (hA:∀ c,A.N c->N1 c) (hz:∀ {w},Sep X N w0 w (rw N1 sz R E v l::A::D)->∀ {N':Nat->Prop},(∀ c,N1 c->N' c)->Rdg N' w A->Tn N' w sz R f vs u z) (hl:l.set i z=l') (kt:J n X N w0 L (rw N1 sz R E v l'::D) tt CC (wpList P ops Q rest)) (hc:gok ops L g=true:=by rfl) (hx:ev L x=some p:=by rfl) (hy:ev L y=some q:=by rfl):J n X N w0 L (rw N1 sz R E v l::A::D) tt CC (wpList P ops Q (⟨none,.store t x y,ty,pos,af,g⟩::rest)):=⟨λa w F H xq qa qc=>oSX F hc hx hy (hq H) H hp hi hA (hz H) hl (λw' H'=>(kt).h a w' F H' xq qa qc)⟩
theorem oBo {Nz:Nat->Prop} {α:Type} {sz:Nat} {R:ER α} {t:Ty} {p:Vl} {y:List α} [qa:Ag P t false] (h:Pz M Nz w1 1 (kP sz R) p y) (kt:∀ v,Bo Nz w1 (Sl sz R) v y->J n X N w0 ((d,v)::L) D tt CC (wpList P ops Q rest)) (hc:vO ops n L g d=true:=by rfl) (he:ev L x=some p:=by rfl) (s:∀ {w},Sep X N w0 w D->Sm M w1 w:=by exact Sep.sm):J n X N w0 L D tt CC (wpList P ops Q (⟨some d,.load t x,ty,pos,af,g⟩::rest)):=⟨λa w F H xq qc qd=>olSz qa.h F hc he (s H) h (λa' v x0 F'=>(kt v x0).h a' w F' H xq qc qd)⟩
theorem jvFz {Nz:Nat->Prop} {α β:Type} {sz s':Nat} {R:ER α} {R':ER β} {t:Ty} {kk:Nat} {p:Vl} {y:α} {z:β} {off:Nat} [hp:Fd P t kk off] (ii:Nat) (qa:ops[ii]?=some ⟨some d,.fieldAddr t x kk,ty,pos,af,g⟩) (h:Pz M Nz w1 sz R p y) (hf:∀ f bi,R w1 f y bi->∃ bj,R' w1 (λj=>f (off+j)) z bj/\∀ c∈bj,c∈bi) (kt:∀ p',Pz M Nz w1 s' R' p' z->J n X N w0 ((d,p')::L) D tt CC (zB P ops K (Sm Mv) f (ls.setIfInBounds ii true))) (hc:vO ops n L g d=true:=by rfl) (he:ev L x=some p:=by rfl) (hb:bqc ops ls ii true=true:=by kernel_rfl):J n X N w0 L D tt CC (zB P ops K (Sm Mv) (f+1) ls):=⟨λa w F H xq qc qd=>bq hb qa (vFz hp.h F hc he h hf (λa' p' x0 F'=>(kt p' x0).h a' w F' H xq qc qd))⟩
theorem oKm {Nz:Nat->Prop} {α β:Type} {sz:Nat} {R:ER α} {R':ER β} {t:Ty} {kk:Nat} {p:Vl} {y:α} {z:β} {off:Nat} [hp:Fd P t kk off] (ii:Nat) (qa:ops[ii]?=some ⟨some d,.fieldAddr t x kk,ty,pos,af,g⟩) (h:Pz M Nz w1 sz R p y) (hf:∀ f bi,R w1 f y bi->∃ bj,R' w1 (λj=>f (off+j)) z bj/\∀ c∈bj,c∈bi) (kt:∀ p',Pz M Nz w1 1 R' p' z->J n X N w0 ((d,p')::L) D tt CC (zB P ops K (Sm Mv) f (ls.setIfInBounds ii true))) (hc:vO ops n L g d=true:=by rfl) (he:ev L x=some p:=by rfl) (hb:bqc ops ls ii true=true:=by kernel_rfl):J n X N w0 L D tt CC (zB P ops K (Sm Mv) (f+1) ls):=jvFz (s':=1) ii qa h hf kt hc he hb
theorem oKc {Nz:Nat->Prop} {α:Type} {sz:Nat} {R:ER α} {t:Ty} {p:Vl} {y:List α} [qa:Ag P t false] (ii:Nat) (qc:ops[ii]?=some ⟨some d,.load t x,ty,pos,af,g⟩) (h:Pz M Nz w1 1 (kP sz R) p y) (kt:∀ v,Bo Nz w1 (Sl sz R) v y->J n X N w0 ((d,v)::L) D tt CC (zB P ops K (Sm Mv) f (ls.setIfInBounds ii true))) (hc:vO ops n L g d=true:=by rfl) (he:ev L x=some p:=by rfl) (s:∀ {w},Sep X N w0 w D->∀ w',Sm Mv w w'->Sm M w1 w':=by exact Sep.v) (hb:bqc ops ls ii true=true:=by kernel_rfl):J n X N w0 L D tt CC (zB P ops K (Sm Mv) (f+1) ls):=⟨λa w F H xq qd qe=>bq hb qc (vlSz qa.h F hc he (s H) h (λa' v x0 F'=>(kt v x0).h a' w F' H xq qd qe))⟩
theorem jqFz {Nz:Nat->Prop} {α β:Type} {sz s':Nat} {R:ER α} {R':ER β} {t:Ty} {kk:Nat} {p:Vl} {y:α} {z:β} {off:Nat} [hp:Fd P t kk off] (h:Pz M Nz w1 sz R p y) (hf:∀ f bi,R w1 f y bi->∃ bj,R' w1 (λj=>f (off+j)) z bj/\∀ c∈bj,c∈bi) (kt:∀ p',Pz M Nz w1 s' R' p' z->J n X N w0 ((d,p')::L) D tt CC (Gq P ops X N w0 D K rest)) (hc:vO ops n L g d=true:=by rfl) (he:ev L x=some p:=by rfl):J n X N w0 L D tt CC (Gq P ops X N w0 D K (⟨some d,.fieldAddr t x kk,ty,pos,af,g⟩::rest)):=⟨λa w F H xq qa qc=>qFz hp.h F hc he h hf (λa' p' x0 F'=>(kt p' x0).h a' w F' H xq qa qc)⟩
theorem oJk {Nz:Nat->Prop} {α β:Type} {sz:Nat} {R:ER α} {R':ER β} {t:Ty} {kk:Nat} {p:Vl} {y:α} {z:β} {off:Nat} [hp:Fd P t kk off] (h:Pz M Nz w1 sz R p y) (hf:∀ f bi,R w1 f y bi->∃ bj,R' w1 (λj=>f (off+j)) z bj/\∀ c∈bj,c∈bi) (kt:∀ p',Pz M Nz w1 1 R' p' z->J n X N w0 ((d,p')::L) D tt CC (Gq P ops X N w0 D K rest)) (hc:vO ops n L g d=true:=by rfl) (he:ev L x=some p:=by rfl):J n X N w0 L D tt CC (Gq P ops X N w0 D K (⟨some d,.fieldAddr t x kk,ty,pos,af,g⟩::rest)):=jqFz (s':=1) h hf kt hc he
theorem oJn {Nz:Nat->Prop} {α:Type} {sz:Nat} {R:ER α} {t:Ty} {p:Vl} {y:List α} [qa:Ag P t false] (h:Pz M Nz w1 1 (kP sz R) p y) (kt:∀ v,Bo Nz w1 (Sl sz R) v y->J n X N w0 ((d,v)::L) D tt CC (Gq P ops X N w0 D K rest)) (hc:vO ops n L g d=true:=by rfl) (he:ev L x=some p:=by rfl) (s:∀ {w},Sep X N w0 w D->∀ w',Below w.heap.size w w'->Sm M w1 w':=by exact Sep.q):J n X N w0 L D tt CC (Gq P ops X N w0 D K (⟨some d,.load t x,ty,pos,af,g⟩::rest)):=⟨λa w F H xq qc qd=>qlSz qa.h F hc he (s H) h (λa' v x0 F'=>(kt v x0).h a' w F' H xq qc qd)⟩
theorem jRcl {t E:Ty} {v p:Vl} {l:List Int} {i:Nat} [ht:Ug P t (.slice E)] (hv:∀ w,(zeroValue E).run P w= .ok (.int .i64 0) w) (T:RTl v l.length i p) (kt:J n X N w0 L (rl 1 xF E v (l.take i++List.replicate (l.length - i) 0)::D) tt CC (wpList P ops Q rest)) (hc:gok ops L g=true:=by rfl) (hx:ev L x=some p:=by rfl):J n X N w0 L (rl 1 xF E v l::D) tt CC (wpList P ops Q (⟨none,.call ⟨.builtin .clear,#[x],#[t]⟩,ty,pos,af,g⟩::rest)):=⟨λa w F H xq qa qc=>oRcl ht.h hv F hc hx H T (λw' H'=>(kt).h a w' F H' xq qa qc)⟩
theorem jRtl {α:Type} {R:ER α} [hR:FrC 1 R] {lo:Operand} {t E:Ty} {v:Vl} {l r:List α} [ht:Ug P t (.slice E)] [qa:Sz P E 1] (j:Nat) (hs:sl l i (l.length:Int)=some r) (kt:∀ p,RTl v l.length i.toNat p->J n X N w0 ((d,p)::L) D tt CC (wpList P ops Q rest)) (hc:vO ops n L g d=true:=by rfl) (hx:ev L x=some v:=by rfl) (qc:ev L lo=some (.int .i64 i):=by rfl) (hj:D[j]?=some (rl 1 R E v l):=by rfl):J n X N w0 L D tt CC (wpList P ops Q (⟨some d,.slice t x (some lo) none none,ty,pos,af,g⟩::rest)):=⟨λa w F H xq qd qe=>oRtl ht.h qa.h F hc hx qc H j hj hs (λa' p x0 F'=>(kt p x0).h a' w F' H xq qd qe)⟩
theorem jRl {α:Type} {sz:Nat} {R:ER α} [hR:FrC sz R] {t E:Ty} {v:Vl} {l:List α} {y:α} [ht:Ug P t (.slice E)] [qa:Sz P E sz] (j:Nat) (qc:ix l i=some y) (kt:∀ p,RPt v sz i.toNat p->J n X N w0 ((d,p)::L) D tt CC (wpList P ops Q rest)) (hc:vO ops n L g d=true:=by rfl) (he:ev L x=some v:=by rfl) (hi:ev L iy=some (.int .i64 i):=by rfl) (hj:D[j]?=some (rl sz R E v l):=by rfl):J n X N w0 L D tt CC (wpList P ops Q (⟨some d,.indexAddr t x iy,ty,pos,af,g⟩::rest)):=⟨λa w F H xq qd qe=>oRl ht.h qa.h F hc he hi H j hj qc (λa' p _ x0 F'=>(kt p x0).h a' w F' H xq qd qe)⟩
theorem jRi {α:Type} {sz:Nat} {R:ER α} [hR:FrC sz R] {t E:Ty} {v:Vl} {l:List α} {y:α} [ht:Ug P t (.slice E)] [qa:Sz P E sz] (j:Nat) (qc:ix l i=some y) (kt:∀ p,RPt v sz i.toNat p->J n X N w0 ((d,p)::L) D tt CC (wpList P ops Q rest)) (hc:vO ops n L g d=true:=by rfl) (he:ev L x=some v:=by rfl) (hi:ev L iy=some (.int .i64 i):=by rfl) (hj:D[j]?=some (rw N1 sz R E v l):=by rfl):J n X N w0 L D tt CC (wpList P ops Q (⟨some d,.indexAddr t x iy,ty,pos,af,g⟩::rest)):=⟨λa w F H xq qd qe=>oRi ht.h qa.h F hc he hi H j hj qc (λa' p _ x0 F'=>(kt p x0).h a' w F' H xq qd qe)⟩
theorem jRo {α:Type} {R:ER α} [hR:FrC 1 R] {t E:Ty} {v:Vl} {l:List α} {y:α} [ht:Ug P t (.slice E)] [qa:Sz P E 1] (j:Nat) (qc:ix l i=some y) (kt:∀ p,OPt v i.toNat p->J n X N w0 ((d,p)::L) D tt CC (wpList P ops Q rest)) (hc:vO ops n L g d=true:=by rfl) (he:ev L x=some v:=by rfl) (hi:ev L iy=some (.int .i64 i):=by rfl) (hj:D[j]?=some (ow (V:=Sl 1 R) v l):=by rfl):J n X N w0 L D tt CC (wpList P ops Q (⟨some d,.indexAddr t x iy,ty,pos,af,g⟩::rest)):=⟨λa w F H xq qd qe=>oRo ht.h qa.h F hc he hi H j hj qc (λa' p _ x0 F'=>(kt p x0).h a' w F' H xq qd qe)⟩
theorem xVk {α:Type} {sz:Nat} {R:ER α} [hR:FrC sz R] {t E E2:Ty} {v p:Vl} {xss:List (List α)} {i:Nat} {l:List α} [qa:Ag P t false] (hp:RPt v 1 i p) (hi:xss[i]?=some l) (kt:∀ u,J n X N w0 ((d,u)::L) (rl sz R E2 u l::rl 1 (RH sz R E2) E v ((xss.map .inr).set i (.inl u))::D) tt CC (wpList P ops Q rest)) (hc:vO ops n L g d=true:=by rfl) (he:ev L x=some p:=by rfl):J n X N w0 L (rl 1 (bO sz R E2) E v xss::D) tt CC (wpList P ops Q (⟨some d,.load t x,ty,pos,af,g⟩::rest)):=⟨λa w F H xq qc qd=>oFoR qa.h F hc he H hp hi (λa' u H' F'=>(kt u).h a' w F' H' xq qc qd)⟩
theorem xXa {α:Type} {sz:Nat} {R:ER α} [hR:FrC sz R] {y:Operand} {t E E2:Ty} {v p u u0:Vl} {xss l':List (List α)} {i:Nat} {l:List α} [qa:Sz P t 1] (hp:RPt v 1 i p) (hi:i<((xss.map Sum.inr).set i (Sum.inl u0):List (Vl ⊕ List α)).length) (hl:xss.set i l=l') (kt:J n X N w0 L (rl 1 (bO sz R E2) E v l'::D) tt CC (wpList P ops Q rest)) (hc:gok ops L g=true:=by rfl) (hx:ev L x=some p:=by rfl) (hy:ev L y=some u:=by rfl):J n X N w0 L (rl 1 (RH sz R E2) E v ((xss.map .inr).set i (.inl u0))::rl sz R E2 u l::D) tt CC (wpList P ops Q (⟨none,.store t x y,ty,pos,af,g⟩::rest)):=⟨λa w F H xq qc qd=>oSfR qa.h F hc hx hy H hp hi hl (λw' H'=>(kt).h a w' F H' xq qc qd)⟩
theorem jCk {M:Nat->Prop} {w1:Wd} {α:Type} {sz:Nat} {R:ER α} {hi mx:Operand} {t E:Ty} {v:Vl} {l r:List α} [ht:Ug P t (.slice E)] [qa:Sz P E sz] (h:Bo M w1 (Sl sz R) v l) (hs:sl l 0 j=some r) (hh:ev L x=some v/\ev L hi=some (.int .i64 j)/\ev L mx=some (.int .i64 j)) (kt:∀ v',Bo M w1 (Sl sz R) v' r->J n X N w0 ((d,v')::L) D tt CC (wpList P ops Q rest)) (hc:vO ops n L g d=true:=by rfl):J n X N w0 L D tt CC (wpList P ops Q (⟨some d,.slice t x none (some hi) (some mx),ty,pos,af,g⟩::rest)):=⟨λa w F H xq qc qd=>oCk ht.h qa.h F hc hh.1 hh.2.1 hh.2.2 h hs (λa' v' x0 F'=>(kt v' x0).h a' w F' H xq qc qd)⟩
theorem jEn {α:Type} {sz:Nat} {R:ER α} {y:Operand} {t t':Ty} {v:Vl} {l:List α} {e0:Ty} [ht:Ug P t (.slice e0)] (h:∀ {w},Sep X N w0 w D->Bo (All w) w (Sl sz R) v l) (kt:∀ (b:Bool),(b=true->l=[])->J n X N w0 ((d,.bool b)::L) D tt CC (wpList P ops Q rest)) (hc:vO ops n L g d=true:=by rfl) (e:ev L x=some v:=by rfl) (e':ev L y=some (.slice none 0 0):=by rfl):J n X N w0 L D tt CC (wpList P ops Q (⟨some d,.binOp .eql t x y t',ty,pos,af,g⟩::rest)):=⟨λa w F H xq qa qc=>oEn ht.h F hc e e' (h H) (λa' b x0 F'=>(kt b x0).h a' w F' H xq qa qc)⟩
theorem jEz {α:Type} {sz:Nat} {R:ER α} {y:Operand} {t t':Ty} {v:Vl} {l:List α} {e0:Ty} [ht:Ug P t (.slice e0)] (h:∀ {w},Sep X N w0 w D->Bo (All w) w (Sl sz R) v l) (hz:l=[]->v= .slice none 0 0) (kt:J n X N w0 ((d,.bool l.isEmpty)::L) D tt CC (wpList P ops Q rest)) (hc:vO ops n L g d=true:=by rfl) (e:ev L x=some v:=by rfl) (e':ev L y=some (.slice none 0 0):=by rfl):J n X N w0 L D tt CC (wpList P ops Q (⟨some d,.binOp .eql t x y t',ty,pos,af,g⟩::rest)):=⟨λa w F H xq qa qc=>oEz ht.h F hc e e' (h H) hz (λa' F'=>(kt).h a' w F' H xq qa qc)⟩
theorem jIz {Nz:Nat->Prop} {α:Type} {sz:Nat} {R:ER α} {t:Ty} {v:Vl} {l:List α} {e:Ty} {y:α} [ht:Ug P t (.slice e)] [qa:Sz P e sz] (h:Bz M Nz w1 sz R v l) (qc:ix l i=some y) (kt:∀ p,Pz M Nz w1 sz R p y->J n X N w0 ((d,p)::L) D tt CC (wpList P ops Q rest)) (hc:vO ops n L g d=true:=by rfl) (he:ev L x=some v:=by rfl) (hi:ev L iy=some (.int .i64 i):=by rfl):J n X N w0 L D tt CC (wpList P ops Q (⟨some d,.indexAddr t x iy,ty,pos,af,g⟩::rest)):=⟨λa w F H xq qd qe=>oIz ht.h qa.h F hc he hi h qc (λa' p x0 F'=>(kt p x0).h a' w F' H xq qd qe)⟩
theorem jFz {Nz:Nat->Prop} {α β:Type} {sz s':Nat} {R:ER α} {R':ER β} {t:Ty} {kk:Nat} {p:Vl} {y:α} {z:β} {off:Nat} [hp:Fd P t kk off] (h:Pz M Nz w1 sz R p y) (hf:∀ f bi,R w1 f y bi->∃ bj,R' w1 (λj=>f (off+j)) z bj/\∀ c∈bj,c∈bi) (kt:∀ p',Pz M Nz w1 s' R' p' z->J n X N w0 ((d,p')::L) D tt CC (wpList P ops Q rest)) (hc:vO ops n L g d=true:=by rfl) (he:ev L x=some p:=by rfl):J n X N w0 L D tt CC (wpList P ops Q (⟨some d,.fieldAddr t x kk,ty,pos,af,g⟩::rest)):=⟨λa w F H xq qa qc=>oFz hp.h F hc he h hf (λa' p' x0 F'=>(kt p' x0).h a' w F' H xq qa qc)⟩
theorem oDx {Nz:Nat->Prop} {α β:Type} {sz:Nat} {R:ER α} {R':ER β} {t:Ty} {kk:Nat} {p:Vl} {y:α} {z:β} {off:Nat} [hp:Fd P t kk off] (h:Pz M Nz w1 sz R p y) (hf:∀ f bi,R w1 f y bi->∃ bj,R' w1 (λj=>f (off+j)) z bj/\∀ c∈bj,c∈bi) (kt:∀ p',Pz M Nz w1 1 R' p' z->J n X N w0 ((d,p')::L) D tt CC (wpList P ops Q rest)) (hc:vO ops n L g d=true:=by rfl) (he:ev L x=some p:=by rfl):J n X N w0 L D tt CC (wpList P ops Q (⟨some d,.fieldAddr t x kk,ty,pos,af,g⟩::rest)):=jFz (s':=1) h hf kt hc he
theorem jU1 {t t':Ty} {z:Int} {ut:TypeDesc} [hs:Ug P t ut] [ht:Ug P t' (.int .u64)] (hi:xL i) (hz:nn i=some z) (kt:J n X N w0 ((d,.int .u64 z)::L) D tt CC (wpList P ops Q rest)) (hc:vO ops n L g d=true:=by rfl) (e:ev L x=some (.int .i64 i):=by rfl):J n X N w0 L D tt CC (wpList P ops Q (⟨some d,.convert t t' x,ty,pos,af,g⟩::rest)):=⟨λa w F H xq qa qc=>oU1 hs.h ht.h F hc e hi hz (λa' F'=>(kt).h a' w F' H xq qa qc)⟩
theorem jU2 {t t':Ty} {z:Int} (e:ev L x=some (.int .u64 z)) (kt:J n X N w0 ((d,.int .u64 (z / 2))::L) D tt CC (wpList P ops Q rest)) (hc:vO ops n L g d=true:=by rfl):J n X N w0 L D tt CC (wpList P ops Q (⟨some d,.binOp .shr t x (.const (.int .u64 1)) t',ty,pos,af,g⟩::rest)):=⟨λa w F H xq qa qc=>oU2 F hc e (λa' F'=>(kt).h a' w F' H xq qa qc)⟩
theorem jU3 {t t':Ty} {z:Int} {ut:TypeDesc} [hs:Ug P t ut] [ht:Ug P t' (.int .i64)] (hi:xL z) (kt:J n X N w0 ((d,.int .i64 z)::L) D tt CC (wpList P ops Q rest)) (hc:vO ops n L g d=true:=by rfl) (e:ev L x=some (.int .u64 z):=by rfl):J n X N w0 L D tt CC (wpList P ops Q (⟨some d,.convert t t' x,ty,pos,af,g⟩::rest)):=⟨λa w F H xq qa qc=>oU3 hs.h ht.h F hc e hi (λa' F'=>(kt).h a' w F' H xq qa qc)⟩
theorem jRM {α:Type} {sz:Nat} {R:ER α} [hR:FrC sz R] {y:Operand} {t E:Ty} {z:Vl} {bytes:Nat} {zero:α} {l:List α} [ht:Ug P t (.slice E)] [qa:If P E z sz bytes] (qc:∀ w,R w (λj=>z.cells[j]?) zero []) (hl:pN zero i=some l) (kt:∀ v,J n X N w0 ((d,v)::L) (rl sz R E v l::D) tt CC (wpList P ops Q rest)) (qd:z.cells.size=sz:=by rfl) (qe:0<sz:=by decide) (qf:bytes<=1024:=by decide) (hc:vO ops n L g d=true:=by rfl) (hx:ev L x=some (.int .i64 i):=by rfl) (hy:ev L y=some (.int .i64 i):=by rfl):J n X N w0 L D tt CC (wpList P ops Q (⟨some d,.makeSlice t x y,ty,pos,af,g⟩::rest)):=⟨λa w F H xq qg qh=>oRM ht.h qa.h qd qe qf qc F hc hx hy hl H (λa' w' v H' F'=>(kt v).h a' w' F' H' xq qg qh)⟩
theorem dJ {f:Fn} {xs ys:List Operand} {us vs:List Vl} (hh:evs L xs=some us/\evs L ys=some vs) (kt:J n X N w0 ((d,.func f us.toArray vs.toArray)::L) D tt CC (wpList P ops Q rest)) (hc:vO ops n L g d=true:=by rfl):J n X N w0 L D tt CC (wpList P ops Q (⟨some d,.makeFunc f xs.toArray ys.toArray,ty,pos,af,g⟩::rest)):=⟨λa w F H xq qa qc=>oGc F hc hh.1 hh.2 (λa' F'=>(kt).h a' w F' H xq qa qc)⟩
theorem xYh {nn:Nat} {t e:Ty} {z:Vl} {parts:Array (Nat×Operand)} {ps:List (Nat×Operand)} {idx:List Nat} {xs:List Operand} {vs:List Vl} {cs:Array Vl} [ht:Ug P t (.array nn e)] [hz:Zv P t z] [qa:Sz P e 1] (hh:parts.toList=ps/\ps.map Prod.fst=idx/\ps.map Prod.snd=xs/\evs L xs=some vs/\(idx.zip vs).foldl (λcs p=>cs.setIfInBounds p.1 p.2) z.cells=cs) (kt:J n X N w0 ((d,.agg cs)::L) D tt CC (wpList P ops Q rest)) (hc:vO ops n L g d=true:=by rfl) (hone:∀ {w},Sep X N w0 w D->∀ v∈vs,v.oneCell'=true:=by intro _ _;repeat (first | exact on | refine oc rfl ?_)) (qc:idx.all (λi=>decide (i<z.cells.size))=true:=by rfl):J n X N w0 L D tt CC (wpList P ops Q (⟨some d,.build t parts,ty,pos,af,g⟩::rest)):=⟨λa w F H xq qd qe=>xZk ht.h hz.h qa.h F hc hh.1 hh.2.1 hh.2.2.1 hh.2.2.2.1 (hone H) qc hh.2.2.2.2 (λa' F'=>(kt).h a' w F' H xq qd qe)⟩
theorem oGv {nn:Nat} {t e:Ty} {y:Operand} {l:List Int} {cs:Array Vl} {z:Int} [ht:Ug P t (.array nn e)] [qa:Ag P e false] [qc:Sz P e 1] (qd:ix l i=some z) (hh:ev L x=some (.agg cs)/\ev L y=some (.int .i64 i)) (kt:J n X N w0 ((d,.int .i64 z)::L) D tt CC (wpList P ops Q rest)) (hc:vO ops n L g d=true:=by rfl) (hl:cs.toList=l.map (Value.int .i64):=by rfl) (hn:l.length=nn:=by rfl):J n X N w0 L D tt CC (wpList P ops Q (⟨some d,.index t x y,ty,pos,af,g⟩::rest)):=⟨λa w F H xq qe qf=>oIu ht.h qa.h qc.h F hc hh.1 hh.2 hl hn qd (λa' F'=>(kt).h a' w F' H xq qe qf)⟩
theorem oEi {nn b:Nat} {t e:Ty} {y:Operand} {l:List Int} {z:Int} [ht:Ug P t (.array nn e)] [qa:Sz P e 1] (qc:ix l i=some z) (hh:ev L x=some (.pointer (some ⟨b,0,none⟩))/\ev L y=some (.int .i64 i)) (kt:J n X N w0 ((d,.pointer (some ⟨b,i.toNat,none⟩))::L) D tt CC (wpList P ops Q rest)) (hc:vO ops n L g d=true:=by rfl) (hn:l.length=nn:=by rfl):J n X N w0 L D tt CC (wpList P ops Q (⟨some d,.indexAddr t x y,ty,pos,af,g⟩::rest)):=⟨λa w F H xq qd qe=>oDz ht.h qa.h F hc hh.1 hh.2 hn qc (λa' F'=>(kt).h a' w F' H xq qd qe)⟩
theorem jX {T:Ty} {v:Vl} {cs:List Vl} (hh:ev L x=some v/\v.cells=cs.toArray) (kt:∀ b,J n X N w0 ((d,.pointer (some ⟨b,0,none⟩))::L) (bx b cs T::D) tt CC (wpList P ops Q rest)) (hc:vO ops n L g d=true:=by rfl):J n X N w0 L D tt CC (wpList P ops Q (⟨some d,.box T x,ty,pos,af,g⟩::rest)):=⟨λa w F H xq qa qc=>oX F hc hh.1 hh.2 H (λa' w' b H' F'=>(kt b).h a' w' F' H' xq qa qc)⟩
theorem aK {T:Ty} {z:Vl} {cs:List Vl} [hz:Zv P T z] (ha:z.cells=cs.toArray) (kt:∀ b,J n X N w0 ((d,.pointer (some ⟨b,0,none⟩))::L) (bx b cs T::D) tt CC (wpList P ops Q rest)) (hc:vO ops n L g d=true:=by rfl):J n X N w0 L D tt CC (wpList P ops Q (⟨some d,.alloc T,ty,pos,af,g⟩::rest)):=⟨λa w F H xq qa qc=>oA hz.h F hc ha H (λa' w' b H' F'=>(kt b).h a' w' F' H' xq qa qc)⟩
end
end
end Go.Proofs.YtnjlbbfcngjhmaaGreat
