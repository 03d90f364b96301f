import Derived.Test.YtomlfdagbmgmgaaGreatProg
import Derived.Shelf.SlicesE.Compact
import Derived.Shelf.SortG.Plain
import Derived.Shelf.SortG.SortNone
import Derived.Shelf.Lays
import Derived.Shelf.Bits.Mul64
import Derived.Laws.IdiomCopy
import Derived.Test.YtomlfdagbmgmgaaGreatJA
namespace Go.Proofs.YtomlfdagbmgmgaaGreat
set_option linter.unusedVariables false
set_option linter.unusedSimpArgs false
section
open Go.RowKit
variable {α:Type} {R:ER α} {x:Operand} {y:Operand}
theorem uM (L vs:List Vl) (o q:Nat) (h:o+vs.length<=L.length):(L.take o++vs++L.drop (o+vs.length))[q]?=if o<=q/\q<o+vs.length then vs[q - o]? else L[q]?:=by
 by_cases h1:q<o
 ·rw[if_neg xG,Dl,Bu (by rw[Bd];omega),Bf,if_pos h1]
 ·by_cases h2:q<o+vs.length
  ·rw[if_pos ⟨xG,h2⟩,Bu (by rw[Ar,Bd];omega),Bb (by rw[Bd];omega),Bd,Fa xG]
  ·rw[if_neg xG,Bb (by rw[Ar,Bd];omega),Dv,Ar,Bd,Fa xG]
   congr 1
   omega
def RPO (v:Vl) (sz i f:Nat) (p:Vl):Prop:=∃ g m c,v= .slice (some ⟨g,0,none⟩) m c/\p= .pointer (some ⟨g,i*sz+f,none⟩)
theorem RPt.o {v p sz i} (h:RPt v sz i p):RPO v sz i 0 p:=h
def xZu (sz:Nat) (R:ER α) (w:Wd) (f:Nat) (vs:List Vl) (y z:α) (bs:List Nat):Prop:= ∀ (old h:Nat->Option Vl) (bi:List Nat),R w old y bi->(∀ j,j<sz->h j=if f<=j/\j<f+vs.length then vs[j - f]? else old j)->∃ bn,R w h z bn/\∀ c∈bn,c∈bi∨c∈bs
theorem xZu.whole {sz} [hR:FrC sz R] {w} {vs} {y z} {bs} (h:El sz R w (.agg vs.toArray) z bs):vs.length=sz/\xZu sz R w 0 vs y z bs:=by
 have hn:vs.length=sz:=by simpa [Value.cells] using h.n
 refine⟨hn,λold g bi hr hg=>⟨bs,hR.fr _ _ _ _ _ _ h.r (λ_ _=>rfl) (λj hj=>?_),λc hc=>.inr hc⟩⟩;rw[hg j hj,if_pos ⟨Bi _,xG⟩]
 simp [Value.cells]
theorem Row.turn {sz} [hR:FrC sz R] {E} {B} {w} {v p} {vs} {l} {rb ib bs} {i f} {y z} (A:Row sz R E B w v l rb ib) (hp:RPO v sz i f p) (hy:l[i]?=some y) (hf:f+vs.length<=sz) (hT:xZu sz R w f vs y z bs) (hm:kH bs w) (hd:Dj rb bs) :
 ∃ g arr,p= .pointer (some ⟨g,i*sz+f,none⟩)/\rb=[g]/\lG w g arr E/\i*sz+f+vs.length<=arr.size ∧
  (∀ {w':Wd},lG w' g (arr.toList.take (i*sz+f)++vs++arr.toList.drop (i*sz+f+vs.length)).toArray E->B5 [g] w w'->∃ ib',Row sz R E B w' v (l.set i z) rb ib'/\∀ c∈ib',c∈ib∨c∈bs):=by
 obtain⟨g,m,c,rfl,rfl⟩:=hp;have hi:i<l.length:=(Ac.1 hy).1;obtain⟨xs,bss,ho,hl,qh,he⟩:=A.row;have hrb:=A.hrb
 simp [uA,Value.ownBlock] at hrb
 subst hrb
 rcases ho.2 with ⟨h,_⟩ | ⟨g3,cap,cur,h,h2,h3,h4,h5,h6,h7⟩
 ·cases h
 simp only[Value.slice.injEq,Option.some.injEq,Addr.mk.injEq,and_true] at h;obtain⟨rfl,rfl,rfl⟩:=h;have qi:=ho.1
 have hmul:i*sz+sz<=l.length*sz:=by have:=Ax sz (show i+1<=l.length from hi);rw[Ct] at this;omega
 have hcur:l.length*sz<=cur.size:=by
  have:=congrArg List.length h7;rw[Bd] at this
  simp at this
  omega
 have hK:lG w g cur E:=h3;refine⟨g,cur,rfl,rfl,hK,xG,λ{w'} K' hO=>?_⟩;have qj:∀ c,c∈ib->c≠g:=λc hc e=>A.dj g vK (e ▸ hc);have qp:∀ c,c∈bs->c≠g:=λc hc e=>hd g vK (e ▸ hc);have hcl:cur.toList.length=cur.size:=Array.length_toList
 have qk:i<bss.length:=by rw[hl];exact hi
 obtain⟨bn,ql,qm⟩:=hT (λj=>xs[i*sz+j]?) (λj=>(xs.take (i*sz+f)++vs++xs.drop (i*sz+f+vs.length))[i*sz+j]?) bss[i] (he i y _ hy (Aa qk)) (λj hj=>by
  rw[uM xs vs _ _ xG]
  by_cases hq:f<=j/\j<f+vs.length
  ·rw[if_pos hq,if_pos xG]
   congr 1
   omega
  ·rw[if_neg hq,if_neg xG])
 have qa:∀ c∈bn,c∈ib∨c∈bs:=λc hc=>(qm c hc).imp (λh=>by rw[<- qh];exact Bl.2 ⟨_,Bs qk,h⟩) id;have qd:∀ c∈bn,c<w.heap.size/\c≠g:=λc hc=>(qa c hc).elim (λh=>⟨A.mem c h,qj c h⟩) (λh=>⟨hm c h,qp c h⟩)
 have qc:∀ c∈(bss.set i bn).flatten,c∈ib∨c∈bs:=λc hc=>by
  rcases dJ hc with h | h
  ·rw[qh] at h;exact .inl h
  ·exact qa c h
 refine⟨(bss.set i bn).flatten,⟨⟨xs.take (i*sz+f)++vs++xs.drop (i*sz+f+vs.length),bss.set i bn,⟨by simp [qi];omega,.inr ⟨g,c,_,vK,h2,K',?_,h5,?_,?_⟩⟩,by simp [hl],rfl,λj y' bj qg qe=>?_⟩,rfl,λc hc=>?_,λb hb qq=>?_⟩,qc⟩
 ·simpa using h4
 ·simp only[Fc,Ar,Bd,Dq]
  omega
 ·apply Cr
  intro q;rw[Bf,Cl];simp only[];rw[uM _ vs _ _ xG,uM _ vs _ _ xG,<- h7]
  by_cases h1:q<l.length*sz
  ·rw[if_pos h1,Bf,if_pos h1]
  ·rw[if_neg h1,if_neg xG,Bf,if_neg h1]
 ·by_cases qn:j=i
  ·subst qn
   rw[Ai hi] at qg;rw[Ai qk] at qe
   cases qg
   cases qe
   exact hR.fr _ _ _ _ _ _ ql (λc hc=>hO.block c (qd c hc).1 (by simpa using (qd c hc).2)) (λq hq=>rfl)
  ·rw[Ak (λe=>qn e.symm)] at qg qe
   refine hR.fr _ _ _ _ _ _ (he j y' bj qg qe) (λc hc=>?_) (λq hq=>?_)
   ·have qf:c∈ib:=by rw[<- qh];exact Bl.2 ⟨bj,Af qe,hc⟩
    exact hO.block c (A.mem c qf) (by simpa using qj c qf)
   ·rw[uM xs vs _ _ xG,if_neg]
    intro hh
    rcases Nat.lt_or_gt_of_ne qn with qo | qo
    ·have:=Ax sz (show j+1<=i from qo)
     rw[Ct] at this
     omega
    ·have:=Ax sz (show i+1<=j from qo)
     rw[Ct] at this
     omega
 ·exact Au ((qc c hc).elim (A.mem c) (hm c)) hO.size
 ·rw[Ay] at hb
  subst hb
  rcases qc _ qq with h | h
  ·exact qj _ h rfl
  ·exact qp _ h rfl
section
variable {P:Program} {ops:Array Oper} {Q:Exit->Act->Wd->Prop} {a:Act} {w w0 w1:Wd} {n:Nat} {L:List (Nat×Vl)} {rest:List Oper} {d:Nat} {ty:Ty} {pos:String} {af:Array Edge} {g:Option (Nat×Bool)} {M N N1:Nat->Prop} {X:List Nat} {D:List As} {A:As}
def Stv (P:Program) (t:Ty) (u:Vl) (vs:List Vl):Prop:=(∀ w,(sizeOf t).run P w= .ok vs.length w)/\(u= .agg vs.toArray/\∀ q∈vs,q.oneCell'=true)∨(∀ w,(sizeOf t).run P w= .ok 1 w)/\vs=[u]/\u.oneCell'=true
theorem xOn {t b o u vs arr T} (F:Sk a n L) (hc:gok ops L g=true) (he:ev L x=some (.pointer (some ⟨b,o,none⟩))) (qc:ev L y=some u) (hu:Stv P t u vs) (h:lG w b arr T) (ho:o+vs.length<=arr.size)
 (k:∀ w',lG w' b (arr.toList.take o++vs++arr.toList.drop (o+vs.length)).toArray T->B5 [b] w w'->wpList P ops Q rest a w'):wpList P ops Q (⟨none,.store t x y,ty,pos,af,g⟩::rest) a w:=by
 rcases hu with ⟨qa,rfl,hv⟩ | ⟨qa,rfl,hv⟩
 ·exact xOf qa F hc he qc h hv ho rfl k
 ·simp only[Am] at ho k
  refine xFt (arr':=(arr.toList.take o++[u]++arr.toList.drop (o+1)).toArray) qa F hc he qc h hv xG ?_ k
  apply Array.ext_getElem?
  intro q;have hs:=uM arr.toList [u] o q (by simp;omega);simp only[Am] at hs;rw[<- Du,<- Du];simp only[Array.toList_setIfInBounds];rw[hs]
  by_cases hq:q=o
  ·subst hq
   simp [show q<arr.size by omega]
  ·rw[if_neg xG,Ak xG]
def Tn (N:Nat->Prop) (w:Wd) (sz:Nat) (R:ER α) (f:Nat) (vs:List Vl) (y z:α):Prop:=∃ bs,xZu sz R w f vs y z bs/\kH bs w/\(∀ c∈bs,N c)/\f+vs.length<=sz
theorem Eo.tn {sz} [hR:FrC sz R] {vs} {y z} (h:Eo N w sz R (.agg vs.toArray) z):Tn N w sz R 0 vs y z:=
 let ⟨bs,h1,h2⟩:=h;let ⟨h3,h4⟩:=xZu.whole h1;⟨bs,h4,h1.m,h2,xG⟩
theorem oSX {sz} [hR:FrC sz R] {t E} {v p q} {vs} {l l'} {i f} {u z}
 (F:Sk a n L) (hc:gok ops L g=true) (hx:ev L x=some p) (hy:ev L y=some q) (hq:Stv P t q vs) (H:Sep X N w0 w (rw N1 sz R E v l::A::D)) (hp:RPO v sz i f p) (hi:l[i]?=some u) (hA:∀ c,A.N c->N1 c) (hz:∀ {N':Nat->Prop},(∀ c,N1 c->N' c)->Rdg N' w A->Tn N' w sz R f vs u z) (hl:l.set i z=l')
 (k:∀ w',Sep X N w0 w' (rw N1 sz R E v l'::D)->wpList P ops Q rest a w'):wpList P ops Q (⟨none,.store t x y,ty,pos,af,g⟩::rest) a w:=by
 obtain⟨Y,⟨Y1,Y2,⟨rb,ib,r1,r2,r3⟩,hP,dj,y1,y2⟩,hN,hY,tr⟩:=H.mg.hd;have qc:∀ c,N1 c->N c:=λc hc=>hN c (.inl hc);obtain⟨bs,h1,hm,h2,hf⟩:=hz (N':=λc=>c∈Y2∨N1 c) (λc hc=>.inr hc) ⟨Y2,hP,λc hc=>.inl hc,λc hc=>.inr (hA c hc)⟩;subst hl
 obtain⟨g2,arr,rfl,rfl,hK,qa,turn⟩:=r1.turn hp hi hf h1 hm (λc hc qd=>by
  rcases h2 c qd with h | h
  ·exact dj c (r2 c hc) h
  ·exact(hY c (y1 c (r2 c hc))).2 (qc c h))
 refine xOn F hc hx hy hq hK qa (λw' K' lo=>?_);obtain⟨ib',q,hs⟩:=turn K' lo;refine k w' (tr (Z:=[g2]) (λc hc=>y1 c (r2 c hc)) lo (B:=rw N1 sz R E v (l.set i z)) (Y1:=Y) ⟨_,ib',q,λc hc=>y1 c (r2 c hc),λc hc=>?_⟩ qc (λc hc=>⟨.inl hc,Au (hY c hc).1 lo.size⟩))
 rcases hs c hc with h | h
 ·exact(r3 c h).imp (y1 c) id
 ·exact(h2 c h).imp (y2 c) id
end
section
variable {P:Program} {ops:Array Oper} {Q:Exit->Act->Wd->Prop} {a:Act} {w w0 w1:Wd} {n:Nat} {L:List (Nat×Vl)} {rest:List Oper} {d:Nat} {dd:Option Tmp} {ty:Ty} {pos:String} {af:Array Edge} {g:Option (Nat×Bool)} {M N N1:Nat->Prop} {X:List Nat} {D:List As} {A:As}
theorem oLr {ts i j} (F:Sk a n L) (e:ev L x=some (.int .i64 i)) (e':ev L y=some (.int .i64 j)) {w'}:(execOp a.eval ⟨dd,.call ⟨.builtin .min,#[x,y],ts⟩,ty,pos,af,g⟩).run P w'= .ok (.value (.int .i64 (if j<i then j else i))) w':=by
 rw[BigFrame.execOp_builtin,BigFrame.builtin_min];simp only[Dp,Dg,Ew,F.ev e,F.ev e']
 simp [Builtin.min_,Builtin.min2]
 try (split<;>rfl)
theorem oLx {ts i j} (F:Sk a n L) (hc:vR ops n L g d=true) (e:ev L x=some (.int .i64 i)) (e':ev L y=some (.int .i64 j)) (k:∀ a',Sk a' n ((d,.int .i64 (if j<i then j else i))::L)->wpList P ops Q rest a' w):wpList P ops Q (⟨some d,.call ⟨.builtin .min,#[x,y],ts⟩,ty,pos,af,g⟩::rest) a w:=zT F hc (oLr F e e') k
theorem oRtl [hR:FrC 1 R] {lo} {t E} {v} {l r} {i} (ht:P.underlying t=some (.slice E)) (qa:∀ w,(sizeOf E).run P w= .ok 1 w) (F:Sk a n L) (hc:vR ops n L g d=true) (hx:ev L x=some v) (qc:ev L lo=some (.int .i64 i)) (H:Sep X N w0 w D) (j:Nat) (hj:D[j]?=some (rl 1 R E v l)) (hs:sl l i (l.length:Int)=some r) (k:∀ a' p,RTl v l.length i.toNat p->Sk a' n ((d,p)::L)->wpList P ops Q rest a' w):wpList P ops Q (⟨some d,.slice t x (some lo) none none,ty,pos,af,g⟩::rest) a w:=by
 obtain⟨Y,⟨rb,ib,r1,_,r2,r3⟩,hY,hN⟩:=H.g j hj;exact oDx ht qa F hc hx qc r1 hs k
theorem oRcl {t E v p l i} (ht:P.underlying t=some (.slice E)) (hv:∀ w,(zeroValue E).run P w= .ok (.int .i64 0) w) (F:Sk a n L) (hc:gok ops L g=true) (hx:ev L x=some p) (H:Sep X N w0 w (rl 1 xF E v l::D)) (T:RTl v l.length i p) (k:∀ w',Sep X N w0 w' (rl 1 xF E v (l.take i++List.replicate (l.length - i) 0)::D)->wpList P ops Q rest a w'):wpList P ops Q (⟨none,.call ⟨.builtin .clear,#[x],#[t]⟩,ty,pos,af,g⟩::rest) a w:=by
 obtain⟨Y,⟨rb,ib,r1,ho,r2,r3⟩,hN,hY,tr⟩:=H.hd;obtain rfl:=xBu r1;exact oBt ht hv F hc hx r1 T (λw' q lo _=>k w' (tr (Z:=rb) r2 lo (B:=rl 1 xF E v _) (Y1:=Y) ⟨rb,[],q,Own.nil _ _,r2,λ_ h=>nomatch h⟩ n0 (λc hc=>⟨.inl hc,Au (hY c hc).1 lo.size⟩)))
theorem oEz {sz t t' v l e0} (ht:P.underlying t=some (.slice e0)) (F:Sk a n L) (hc:vR ops n L g d=true) (e:ev L x=some v) (e':ev L y=some (.slice none 0 0)) (h:Bo M w (Sl sz R) v l) (hz:l=[]->v= .slice none 0 0)
 (k:∀ a',Sk a' n ((d,.bool l.isEmpty)::L)->wpList P ops Q rest a' w):wpList P ops Q (⟨some d,.binOp .eql t x y t',ty,pos,af,g⟩::rest) a w:=
 let ⟨_,h1,_⟩:=h;oCd ht F hc e e' h1 hz k
end
theorem bD {l:List α} {i:Int} {y:α} (h:ix l i=some y):l[i.toNat]?=some y:=(aE h).2
section
variable {X:List Nat} {N M:Nat->Prop} {w0 w:Wd} {L:List As} {A B C:As}
theorem Sep.up {sz} [hR:FrC sz R] {E} {v} {l} (H:Sep X N w0 w (rw M sz R E v l::L)) (h:∀ c,M c->N c):Sep X N w0 w (rw N sz R E v l::L):=by
 obtain⟨Y,⟨rb,ib,r1,r2,r3⟩,hN,hY,tr⟩:=H.hd;exact tr (Z:=[]) (λ_ h=>nomatch h) (B5.refl _ _) (B:=rw N sz R E v l) (Y1:=Y) ⟨rb,ib,r1,r2,λc hc=>(r3 c hc).imp id (h c)⟩ n1 (λc hc=>⟨.inl hc,(hY c hc).1⟩)
theorem Sep.upt {M' sz} [hR:FrC sz R] {E} {v} {l} (H:Sep X N w0 w (rw M sz R E v l::L)) (h:∀ c,M c->M' c) (h':∀ c,M' c->N c):Sep X N w0 w (rw M' sz R E v l::L):=by
 obtain⟨Y,⟨rb,ib,r1,r2,r3⟩,hN,hY,tr⟩:=H.hd;exact tr (Z:=[]) (λ_ h=>nomatch h) (B5.refl _ _) (B:=rw M' sz R E v l) (Y1:=Y) ⟨rb,ib,r1,r2,λc hc=>(r3 c hc).imp id (h c)⟩ h' (λc hc=>⟨.inl hc,(hY c hc).1⟩)
theorem Sep.mg2 (H:Sep X N w0 w (A::B::C::L)):Sep X N w0 w (A::pr B C::L):=by
 obtain⟨Y,h1,h2⟩:=H.ex;obtain⟨h3,h4,h5⟩:=h1 1 B rfl;obtain⟨h6,h7,h8⟩:=h1 2 C rfl;refine⟨H.fr,H.nb,λi=>match i with | 0=>Y 0 | 1=>Y 1++Y 2 | i+2=>Y (i+3),λi D hi=>?_,λi j hi hj qa=>?_⟩
 ·match i,hi with
  | 0,hi=>exact h1 0 D (vV hi)
  | 1,hi=>
   simp at hi
   subst hi;exact⟨⟨Y 1,Y 2,h3,h6,h2 1 2 vK vK xG,λc hc=>Bq _ hc,λc hc=>Bm _ hc⟩,λc hc=>hc.elim (h4 c) (h7 c),λc hc=>(Aj.1 hc).elim (h5 c) (h8 c)⟩
  | i+2,hi=>exact h1 (i+3) D (vV hi)
 ·have key:∀ k,k<(A::B::C::L).length->k≠1->k≠2->Dj (Y 1++Y 2) (Y k):=λk hk h1 h3=>Dj.app' (h2 1 k vK hk xG) (h2 2 k vK hk xG)
  match i,j,hi,hj,qa with
  | 0,0,_,_,h=>exact absurd rfl h
  | 0,1,_,_,_=>exact(key 0 vK xG xG).symm
  | 1,0,_,_,_=>exact key 0 vK xG xG
  | 1,1,_,_,h=>exact absurd rfl h
  | 0,j+2,_,hj,_=>exact h2 0 (j+3) vK (vV hj) xG
  | 1,j+2,_,hj,_=>exact key (j+3) (vV hj) xG xG
  | i+2,0,hi,_,_=>exact h2 (i+3) 0 (vV hi) vK xG
  | i+2,1,hi,_,_=>exact(key (i+3) (vV hi) xG xG).symm
  | i+2,j+2,hi,hj,h=>exact h2 (i+3) (j+3) (vV hi) (vV hj) xG
end
def Ab (f:(Nat->Prop)->As):Prop:=(∀ N c,(f N).N c->N c)/\∀ {M N:Nat->Prop} {w:Wd} {Y Z:List Nat},(∀ c,M c->N c∨c∈Y)->(f M).P w Z->(f N).P w (Z++Y)
theorem Ab.rw {sz} [hR:FrC sz R] {E} {v} {l}:Ab (λN=>Go.Proofs.YtomlfdagbmgmgaaGreat.rw N sz R E v l):= ⟨λ_ _ h=>h,λh ⟨rb,ib,r1,r2,r3⟩=>⟨rb,ib,r1,λc hc=>Bq _ (r2 c hc),λc hc=>(r3 c hc).elim (λh=>.inl (Bq _ h)) (λg=>(h c g).elim .inr (λg=>.inl (Bm _ g)))⟩⟩
theorem Ab.ro {V:VR α} [hV:VF V] {v:Vl} {x:α}:Ab (λN=>Go.Proofs.YtomlfdagbmgmgaaGreat.ro N (V:=V) v x):= ⟨λ_ _ h=>h,λh ⟨bs,r1,r2⟩=>⟨bs,r1,λc hc=>(r2 c hc).elim (λh=>.inl (Bq _ h)) (λg=>(h c g).elim .inr (λg=>.inl (Bm _ g)))⟩⟩
theorem Sep.fza {X:List Nat} {N:Nat->Prop} {w0 w:Wd} {L:List As} {A:As} (H:Sep X N w0 w (A::L)):∃ (X1:List Nat) (N1:Nat->Prop),Rdg N1 w A/\Lf N w0 N1 w/\Sep X1 N1 w w L ∧
 ((∀ {w':Wd} {K:List As},Sep X1 N1 w w' K->(∀ B∈K,∀ c,B.N c->N c)->Sep X N w0 w' (A::K))/\(∀ {w':Wd} {K:List As} {α:Type} {V:VR α} [VF V] {v:Vl} {x:α},Sep X1 N1 w w' (Go.Proofs.YtomlfdagbmgmgaaGreat.ro N1 (V:=V) v x::K)->(∀ B∈K,∀ c,B.N c->N c)->Sep X N w0 w' (Go.Proofs.YtomlfdagbmgmgaaGreat.ro N (V:=V) v x::K))/\(∀ c,N c->N1 c)) ∧
 (∀ {f:(Nat->Prop)->As},Ab f->∀ {w':Wd} {K:List As},Sep X1 N1 w w' (f N1::K)->(∀ B∈K,∀ c,B.N c->N c)->Sep X N w0 w' (f N::K)):=by
 obtain⟨Y,h1,h2⟩:=H.ex;obtain⟨h3,h4,h5⟩:=h1 0 A rfl;have qg:∀ c,c∈(List.range L.length).flatMap (λi=>Y (i+1))↔∃ i,i<L.length/\c∈Y (i+1):=λc=>vK;have own:∀ i,i<L.length->∀ c∈Y (i+1),c<w.heap.size/\(c∈X∨w0.heap.size<=c):=λi hi c hc=>(h1 (i+1) L[i] (by simp [hi])).2.2 c hc
 have qc:∀ c,(N c∨c∈Y 0)->c ∉ (List.range L.length).flatMap (λi=>Y (i+1)):=λc hc hm=>by
  obtain⟨i,hi,qf⟩:=(qg c).1 hm
  rcases hc with hc | hc
  ·exact Sep.own (i:=0) (own i hi c qf).2 H hc
  ·exact h2 0 (i+1) vK (by simp [hi]) xG c hc qf
 have qa:∀ c,c∈(List.range L.length).flatMap (λi=>Y (i+1))->c∈X∨w0.heap.size<=c:=λc hc=>by
  obtain⟨i,hi,qf⟩:=(qg c).1 hc;exact(own i hi c qf).2
 have ab:∀ {f:(Nat->Prop)->As},Ab f->∀ {w':Wd} {K:List As},Sep ((List.range L.length).flatMap (λi=>Y (i+1))) (λc=>N c∨c∈Y 0) w w' (f (λc=>N c∨c∈Y 0)::K)->(∀ B∈K,∀ c,B.N c->N c)->Sep X N w0 w' (f N::K):=λ{f} hf {w' K} S hN=>by
  obtain⟨Z,g1,g2⟩:=S.ex
  have key:∀ k,k<(f (λc=>N c∨c∈Y 0)::K).length->Dj (Y 0) (Z k):=λk hk c hc qh=>by
   rcases((g1 k _ (Aa hk)).2.2 c qh).2 with h | h
   ·exact qc c (.inr hc) h
   ·have:=(h5 c hc).1
    omega
  have g0:=g1 0 _ rfl;have qi:(f N::K).length=(f (λc=>N c∨c∈Y 0)::K).length:=vK;refine⟨⟨S.fr.os.trans H.fr.os,S.fr.tape.trans H.fr.tape,S.fr.output.trans H.fr.output,Cb H.fr.size S.fr.size,λk hk hn=>?_⟩,H.nb,λi=>match i with | 0=>Z 0++Y 0 | i+1=>Z (i+1),λi B hi=>?_,λi j hi hj qd=>?_⟩
  ·rw[S.fr.block k (Au hk H.fr.size) (λhm=>by rcases qa k hm with h | h;exact hn h;omega),H.fr.block k hk hn]
  ·cases i with
   | zero=>
    simp at hi
    subst hi;refine⟨hf.2 (λc h=>h) g0.1,λc hc=>hf.1 _ c hc,λc hc=>?_⟩
    rcases Aj.1 hc with hc | hc
    ·refine⟨(g0.2.2 c hc).1,?_⟩
     rcases(g0.2.2 c hc).2 with h | h
     ·exact qa c h
     ·exact .inr (Cb H.fr.size h)
    ·exact⟨Au (h5 c hc).1 S.fr.size,(h5 c hc).2⟩
   | succ i=>
    have qe:K[i]?=some B:=vV hi;obtain⟨g3,g4,g5⟩:=g1 (i+1) B (vV qe);refine⟨g3,hN B (Af qe),λc hc=>⟨(g5 c hc).1,?_⟩⟩
    rcases(g5 c hc).2 with h | h
    ·exact qa c h
    ·exact .inr (Cb H.fr.size h)
  ·rw[qi] at hi hj
   cases i with
   | zero=>
    cases j with
    | zero=>exact absurd rfl qd
    | succ j=>exact Dj.app' (g2 0 (j+1) hi hj xG) (key (j+1) hj)
   | succ i=>
    cases j with
    | zero=>exact(Dj.app' (g2 0 (i+1) hj hi xG) (key (i+1) hi)).symm
    | succ j=>exact g2 (i+1) (j+1) hi hj qd
 refine⟨(List.range L.length).flatMap (λi=>Y (i+1)),λc=>N c∨c∈Y 0,⟨Y 0,h3,λc hc=>.inr hc,λc hc=>.inl (h4 c hc)⟩,λh=>(h.to H.sm).mono (λc hc=>.inl hc),⟨B5.refl _ _,λc hc=>⟨?_,qc c hc⟩,λi=>Y (i+1),λi B hi=>?_,λi j hi hj qd=>h2 (i+1) (j+1) (vV hi) (vV hj) xG⟩,⟨λ{w' K} S hN=>?_,λ{w' K α V hV v x} S hN=>ab Ab.ro S hN,λc hc=>.inl hc⟩,ab⟩
 ·rcases hc with hc | hc
  ·exact Au (H.nb c hc).1 H.fr.size
  ·exact(h5 c hc).1
 ·have qj:=(Ac.1 hi).1
  obtain⟨h6,h7,h8⟩:=h1 (i+1) B (vV hi);exact⟨h6,λc hc=>.inl (h7 c hc),λc hc=>⟨(h8 c hc).1,.inl ((qg c).2 ⟨i,qj,hc⟩)⟩⟩
 ·obtain⟨Z,g1,g2⟩:=S.ex
  refine⟨⟨S.fr.os.trans H.fr.os,S.fr.tape.trans H.fr.tape,S.fr.output.trans H.fr.output,Cb H.fr.size S.fr.size,λk hk hn=>?_⟩,H.nb,λi=>match i with | 0=>Y 0 | i+1=>Z i,λi B hi=>?_,λi j hi hj qd=>?_⟩
  ·rw[S.fr.block k (Au hk H.fr.size) (λhm=>by rcases qa k hm with h | h;exact hn h;omega),H.fr.block k hk hn]
  ·cases i with
   | zero=>
    simp at hi
    subst hi;exact⟨A.st h3 (λc hc=>S.sm.blk c (.inr hc)) (λc hc=>S.sm.blk c (.inl (h4 c hc))) S.fr.size,h4,λc hc=>⟨Au (h5 c hc).1 S.fr.size,(h5 c hc).2⟩⟩
   | succ i=>
    have qe:K[i]?=some B:=vV hi;obtain⟨g3,g4,g5⟩:=g1 i B qe;refine⟨g3,hN B (Af qe),λc hc=>⟨(g5 c hc).1,?_⟩⟩
    rcases(g5 c hc).2 with h | h
    ·exact qa c h
    ·exact .inr (Cb H.fr.size h)
  ·have key:∀ k,k<K.length->Dj (Y 0) (Z k):=λk hk c hc qh=>by
    rcases((g1 k _ (Aa hk)).2.2 c qh).2 with h | h
    ·exact qc c (.inr hc) h
    ·have:=(h5 c hc).1
     omega
   cases i with
   | zero=>
    cases j with
    | zero=>exact absurd rfl qd
    | succ j=>exact key j (vV hj)
   | succ i=>
    cases j with
    | zero=>exact(key i (vV hi)).symm
    | succ j=>exact g2 i j (vV hi) (vV hj) xG
end
section
open Go.RowKit
variable {x:Operand}
def OPt (v:Vl) (i:Nat) (p:Vl):Prop:=∃ b o m c,v= .slice (some ⟨b,o,none⟩) m c/\p= .pointer (some ⟨b,o+i,none⟩)
def RS {α:Type} (sz:Nat) (R:ER α):ER (Vl ⊕ List α):=λw f x bs=>match x with
 | .inl u=>f 0=some u/\u.oneCell'=true/\bs=[]
 | .inr l=>zV sz R w f l bs
instance {α:Type} {sz:Nat} {R:ER α} [hR:FrC sz R]:FrC 1 (RS sz R):=⟨λw w' f g x bs h hs hg=>by
 cases x with
 | inl u=>exact⟨(hg 0 xG).trans h.1,h.2⟩
 | inr l=>exact(inferInstance:FrC 1 (zV sz R)).fr _ _ _ _ _ _ h hs hg,λw f x bs h j hj=>by
 cases x with
 | inl u=>
  obtain rfl:j=0:=xG;exact⟨u,h.1,h.2.1⟩
 | inr l=>exact(inferInstance:FrC 1 (zV sz R)).tot _ _ _ _ h j hj⟩
theorem eZ {bss:List (List Nat)} {i:Nat} {c:Nat} (h:c∈(bss.set i []).flatten):c∈bss.flatten:=(dJ h).elim id (λh=>nomatch h)
theorem uN {bss:List (List Nat)} (hn:bss.flatten.Nodup) {i:Nat} {bi:List Nat} (hi:bss[i]?=some bi):bi.Nodup/\(bss.set i []).flatten.Nodup/\∀ c∈bi,c ∉ (bss.set i []).flatten:=by
 obtain⟨hl,rfl⟩:=Ac.1 hi
 have e:bss=bss.take i++bss[i]::bss.drop (i+1):=by rw[<- Bt hl,Ei]
 have e2:bss.set i []=bss.take i++[]::bss.drop (i+1):=by rw[List.set_eq_take_append_cons_drop,if_pos hl]
 rw[e2];rw[e] at hn;simp only[Eg,List.flatten_cons,Bp] at hn ⊢;rw[Ci] at hn;obtain⟨n1,n2,n3⟩:=hn;rw[Ci] at n2;obtain⟨n4,n5,n6⟩:=n2;refine⟨n4,Ci.2 ⟨n1,n5,λa ha b hb=>n3 a ha b (Bm _ hb)⟩,λc hc hm=>?_⟩
 rcases Aj.1 hm with h | h
 ·exact n3 c h c (Bq _ hc) rfl
 ·exact n6 c hc c h rfl
section
variable {X:List Nat} {N:Nat->Prop} {w0 w:Wd} {D:List As} {α:Type} {sz:Nat} {R:ER α} [hR:FrC sz R] {E:Ty} {v:Vl}
end
section
variable {P:Program} {ops:Array Oper} {Q:Exit->Act->Wd->Prop} {a:Act} {w w0 w1:Wd} {n:Nat} {L:List (Nat×Vl)} {rest:List Oper} {d:Nat} {ty:Ty} {pos:String} {af:Array Edge} {g:Option (Nat×Bool)} {M N N1:Nat->Prop} {X:List Nat} {D:List As}
theorem oFoc {α:Type} {sz:Nat} {R:ER α} [hR:FrC sz R] {t E:Ty} {v p:Vl} {xss:List (List α)} {i:Nat} {l:List α} (qp:∀ w,(isAgg t).run P w= .ok false w) (F:Sk a n L) (hc:vR ops n L g d=true) (he:ev L x=some p) (H:Sep X N w0 w (rl 1 (zV sz R) E v xss::D)) (hp:RPt v 1 i p) (hi:xss[i]?=some l)
 (k:∀ a' u,Sep X N w0 w (ow (V:=Sl sz R) u l::rl 1 (RS sz R) E v ((xss.map .inr).set i (.inl u))::D)->i<xss.length->Sk a' n ((d,u)::L)->wpList P ops Q rest a' w):wpList P ops Q (⟨some d,.load t x,ty,pos,af,g⟩::rest) a w:=by
 obtain⟨Y,⟨rb,ib,r1,qd,r2,r3⟩,hN,hY,tr⟩:=H.hd;obtain⟨g2,m,c,rfl,rfl⟩:=hp;obtain⟨qk,hil2⟩:=Ac.1 hi;obtain⟨xs,bss,ho,hl,qg,ql⟩:=r1.row;have qh:i<bss.length:=xG;have qm:=Aa qh;obtain⟨u,hu,qn⟩:=ql i l bss[i] hi qm;simp only[Cj,Cd] at hu
 have qe:w.cell? ⟨g2,i*1,none⟩=some u:=by
  have:=ho.cells (g:=g2) rfl i u hu;rw[cJ] at this
  simpa using this
 have qi:=uN (by rw[qg];exact qd.1) qm
 have qc:∀ c∈bss[i],c∈ib:=λc hc=>by rw[<- qg];exact Bl.2 ⟨_,Bs qh,hc⟩
 have qa:∀ c∈(bss.set i []).flatten,c∈ib:=λc hc=>by rw[<- qg];exact eZ hc
 have rd:Rd (Sl sz R) w u l bss[i]:=⟨qn,λc hc=>r1.mem c (qc c hc)⟩
 have hole:Row 1 (RS sz R) E 0 w (.slice (some ⟨g2,0,none⟩) m c) ((xss.map .inr).set i (.inl u)) rb (bss.set i []).flatten:=by
  refine⟨⟨xs,bss.set i [],vV ho,by simp [hl],rfl,λj y bj hy qf=>?_⟩,r1.hrb,λc hc=>r1.mem c (qa c hc),λc hc qj=>r1.dj c hc (qa c qj)⟩
  by_cases qo:j=i
  ·subst qo
   rw[Ai (vV qk)] at hy;rw[Ai qh] at qf
   cases hy
   cases qf
   exact⟨by simpa using hu,qn.one,rfl⟩
  ·rw[Ak (λe=>qo e.symm)] at hy qf
   rw[Bc,Eb] at hy;obtain⟨z,hz,rfl⟩:=hy;exact ql j z bj hz qf
 refine zT F hc (nW qp F he qe) (λa' F'=>k a' u ?_ qk F');refine Sep.um (tr (Z:=[]) (λ_ h=>nomatch h) (B5.refl _ _) (B:=pr (ow (V:=Sl sz R) u l) (rl 1 (RS sz R) E (.slice (some ⟨g2,0,none⟩) m c) ((xss.map .inr).set i (.inl u)))) (Y1:=Y) ⟨bss[i],rb++(bss.set i []).flatten,⟨bss[i],rd,⟨qi.1,λc hc=>qd.2 c (qc c hc)⟩,λc hc=>hc⟩,⟨rb,_,hole,⟨qi.2.1,λc hc=>qd.2 c (qa c hc)⟩,λc hc=>Bq _ hc,λc hc=>Bm _ hc⟩,λc hc qj=>?_,λc hc=>r3 c (qc c hc),λc hc=>?_⟩ (λc hc=>hc.elim (n0 c) (n0 c)) (λc hc=>⟨.inl hc,(hY c hc).1⟩))
 ·rcases Aj.1 qj with h | h
  ·exact r1.dj c h (qc c hc)
  ·exact qi.2.2 c hc h
 ·rcases Aj.1 hc with h | h
  ·exact r2 c h
  ·exact r3 c (qa c h)
theorem oRo {α:Type} {R:ER α} [hR:FrC 1 R] {iy:Operand} {t E:Ty} {v:Vl} {l:List α} {i:Int} {y:α} (ht:P.underlying t=some (.slice E)) (qc:∀ w,(sizeOf E).run P w= .ok 1 w)
 (F:Sk a n L) (hc:vR ops n L g d=true) (he:ev L x=some v) (hi:ev L iy=some (.int .i64 i)) (H:Sep X N w0 w D) (j:Nat) (hj:D[j]?=some (ow (V:=Sl 1 R) v l)) (qd:ix l i=some y)
 (k:∀ a' p,Bo (All w) w (Pt 1 R) p y->OPt v i.toNat p->Sk a' n ((d,p)::L)->wpList P ops Q rest a' w):wpList P ops Q (⟨some d,.indexAddr t x iy,ty,pos,af,g⟩::rest) a w:=by
 obtain⟨bs,h,hA⟩:=H.o j hj;obtain⟨h0,hy⟩:=aE qd;obtain⟨hk,rfl⟩:=Ac.1 hy;obtain⟨a',c',rfl,h1,h2,h3,h4⟩:=h.r.open;obtain⟨b,o,bss,bi,rfl,rfl,_,_,hs,hr⟩:=h4 i.toNat hk;simp only[Cj] at hr;refine zT (v:=.pointer (some ⟨b,o+i.toNat,none⟩)) (w':=w) F hc ?_ (λa' F'=>k a' _ ⟨b::bi,⟨⟨b,_,bi,rfl,rfl,hr⟩,λc hc=>?_⟩,λc hc=>?_⟩ ⟨b,o,_,c',rfl,rfl⟩ F')
 ·have qa:=cJ b o (i.toNat*1)
  unfold execOp
  simp only[F.ev he,F.ev hi];have qe:i<(l.length:Int):=xG;simp only[Cj] at qa
  simp [Instr.indexAt,run_underlying ht,asIntOf,h0,qe,qc,qa]
 ·rcases Av.1 hc with rfl | hc
  ·exact h.m _ vK
  ·exact h.m _ (hs c hc)
 ·rcases Av.1 hc with rfl | hc
  ·exact hA _ vK
  ·exact hA _ (hs c hc)
theorem oSo {y t v p l l' i z} (qi:∀ w,(sizeOf t).run P w= .ok 1 w)
 (F:Sk a n L) (hc:gok ops L g=true) (hx:ev L x=some p) (hy:ev L y=some (.int .i64 z)) (H:Sep X N w0 w (ow (V:=Sl 1 xF) v l::D)) (hp:OPt v i p) (hi:i<l.length) (hz:xM z) (hl:l.set i z=l')
 (k:∀ w',Sep X N w0 w' (ow (V:=Sl 1 xF) v l'::D)->wpList P ops Q rest a w'):wpList P ops Q (⟨none,.store t x y,ty,pos,af,g⟩::rest) a w:=by
 obtain⟨Y,⟨bs,hr,ho,hs⟩,hN,hY,tr⟩:=H.hd;obtain⟨ad,c,rfl,h1,h2,h3,h4⟩:=hr.r
 rcases h4 with ⟨rfl,_⟩ | ⟨b,o,bss,rfl,rfl,he⟩
 ·simp at hi
 obtain⟨b',o',m',c',e,rfl⟩:=hp;simp only[Value.slice.injEq,Option.some.injEq,Addr.mk.injEq,and_true] at e;obtain⟨⟨rfl,rfl⟩,rfl,rfl⟩:=e;subst hl;obtain⟨_,cur,e,qe⟩:=ho.2 b vK;have hK:lG w b cur e:=qe
 have qf:∀ j bj,bss[j]?=some bj->bj=[]:=λj bj hb=>by
  have hj:j<l.length:=by have:=(Ac.1 hb).1;rw[he.1] at this;exact this
  exact(he.2 j _ bj (Aa hj) hb).2.2
 have qa:bss.flatten=[]:=Dx.2 (λbj hb=>by obtain⟨j,hj,rfl⟩:=Bx hb;exact qf j _ (Aa hj));have qc:=he.2 i _ _ (Aa hi) (Aa (by rw[he.1];exact hi))
 have qg:o+i<cur.size:=by
  have:=qc.1;simp only[Cj,Cd] at this;rw[hK.cell] at this;exact(Cz.1 this).1
 refine xFt qi F hc hx hy hK rfl qg rfl (λw' K' lo=>k w' (tr (Z:=[b]) (λc hc=>hs c (by rw[Ay] at hc;simp [hc])) lo (B:=ow (V:=Sl 1 xF) _ (l.set i z)) (Y1:=Y) ⟨b::bss.flatten,⟨⟨_,_,vK,vV h1,h2,h3,.inr ⟨b,o,bss,rfl,rfl,by simp [he.1],λj y' bj qd hb=>?_⟩⟩,λc hc=>?_⟩,⟨ho.1,λc hc=>?_⟩,hs⟩ n0 (λc hc=>⟨.inl hc,Au (hY c hc).1 lo.size⟩)))
 ·obtain rfl:=qf j bj hb
  simp only[Cj]
  by_cases qh:j=i
  ·subst qh
   rw[Ai hi] at qd
   cases qd
   refine⟨?_,hz,rfl⟩
   show w'.cell? ⟨b,o+j+0,none⟩=_
   rw[Cd,K'.cell,Ca,if_pos rfl,if_pos qg]
  ·rw[Ak (λe=>qh e.symm)] at qd
   have hm:=he.2 j y' [] qd hb;simp only[Cj] at hm;refine⟨?_,hm.2.1,rfl⟩;have h5:w.cell? ⟨b,o+j+0,none⟩=_:=hm.1
   show w'.cell? ⟨b,o+j+0,none⟩=_
   rw[Cd] at h5 ⊢;rw[hK.cell] at h5;rw[K'.cell,Ca,if_neg xG];exact h5
 ·rw[qa,Ay] at hc
  subst hc;exact K'.lt
 ·rw[qa,Ay] at hc
  subst hc;exact⟨Bi _,_,_,K'⟩
end
end
section
open Go.RowKit
variable {x:Operand}
def rz (N:Nat->Prop) {α:Type} (sz:Nat) (R:ER α) [hR:FrC sz R] (E:Ty) (v:Vl) (xs:List α):As:= ⟨N,λw Y=>∃ rb ib,Row sz R E 0 w v xs rb ib/\(∀ c∈rb,c∈Y)/\∀ c∈ib,N c,λh h1 h2 hs=>by
 obtain⟨rb,ib,h3,h4,h5⟩:=h
 exact⟨rb,ib,h3.keep (λc hc=>h1 c (h4 c hc)) (λc hc=>h2 c (h5 c hc)) hs,h4,h5⟩⟩
def Bz {α:Type} (M N:Nat->Prop) (w:Wd) (sz:Nat) (R:ER α) (v:Vl) (l:List α):Prop:=∃ bs,Rd (Sl sz R) w v l bs/\∀ b r,bs=b::r->M b/\∀ c∈r,N c
def Pz {α:Type} (M N:Nat->Prop) (w:Wd) (sz:Nat) (R:ER α) (p:Vl) (y:α):Prop:=∃ b bi,Rd (Pt sz R) w p y (b::bi)/\M b/\∀ c∈bi,N c
section
variable {M N:Nat->Prop} {w:Wd} {α:Type} {sz:Nat} {R:ER α} {v p:Vl} {l:List α} {y:α}
theorem Bz.bo (h:Bz M N w sz R v l) (hs:∀ c,N c->M c):Bo M w (Sl sz R) v l:=by
 obtain⟨bs,h1,h2⟩:=h;refine⟨bs,h1,λc hc=>?_⟩
 cases bs with
 | nil=>cases hc
 | cons b r=>
  obtain⟨h3,h4⟩:=h2 b r rfl
  rcases Av.1 hc with rfl | hc
  ·exact h3
  ·exact hs c (h4 c hc)
theorem Pz.bo (h:Pz M N w sz R p y) (hs:∀ c,N c->M c):Bo M w (Pt sz R) p y:=by
 obtain⟨b,bi,h1,h2,h3⟩:=h;refine⟨_,h1,λc hc=>?_⟩
 rcases Av.1 hc with rfl | hc
 ·exact h2
 ·exact hs c (h3 c hc)
theorem Row.bz [hR:FrC sz R] {E} {B} {rb ib} (h:Row sz R E B w v l rb ib) (h1:∀ c∈rb,M c) (h2:∀ c∈ib,N c):Bz M N w sz R v l:=by
 have hr:=h.rd;obtain⟨xs,bss,ho,hl,hfl,he⟩:=h.row;have hrb:=h.hrb
 rcases ho.2 with ⟨rfl,hn⟩ | ⟨g,cap,cur,rfl,_⟩
 ·refine⟨[],?_,λb r e=>by cases e⟩
  have e:l=[]:=Cc.1 hn;subst e;exact Rd.nil sz R w
 ·have e:rb=[g]:=by rw[hrb];simp [uA,Value.ownBlock]
  subst e
  exact⟨_,hr,λb r e=>by
   simp at e
   obtain⟨rfl,rfl⟩:=e
   exact⟨h1 _ vK,h2⟩⟩
theorem Rdg.zd [hR:FrC sz R] {N1} {E} (h:Rdg N1 w (rz N sz R E v l)):Bz N1 N w sz R v l:=
 let ⟨_,⟨_,_,h1,h2,h3⟩,h4,_⟩:=h;h1.bz (λc hc=>h4 c (h2 c hc)) h3
theorem Rdg.rzd [hR:FrC sz R] {N1} {E} (h:Rdg N1 w (rz N sz R E v l)):Bo N1 w (Sl sz R) v l:=h.zd.bo (let ⟨_,_,_,h5⟩:=h;h5)
end
section
variable {X:List Nat} {N M:Nat->Prop} {w0 w:Wd} {L:List As} {α:Type} {sz:Nat} {R:ER α} [hR:FrC sz R] {E:Ty} {v:Vl} {l:List α}
theorem Sep.zw (H:Sep X N w0 w (Go.Proofs.YtomlfdagbmgmgaaGreat.rz M sz R E v l::L)):Sep X N w0 w (rw M sz R E v l::L):=by
 obtain⟨Y,⟨rb,ib,r1,r2,r3⟩,hN,hY,tr⟩:=H.hd;exact tr (Z:=[]) (λ_ h=>nomatch h) (B5.refl _ _) (B:=rw M sz R E v l) (Y1:=Y) ⟨rb,ib,r1,r2,λc hc=>.inr (r3 c hc)⟩ hN (λc hc=>⟨.inl hc,(hY c hc).1⟩)
theorem Sep.spl (H:Sep X N w0 w (rw M sz R E v l::L)):∃ (X1:List Nat) (N1:Nat->Prop),Lf N w0 N1 w/\Sep X1 N1 w w (Go.Proofs.YtomlfdagbmgmgaaGreat.rz N1 sz R E v l::L) ∧
 ((∀ {w':Wd} {K:List As},Sep X1 N1 w w' K->(∀ B∈K,∀ c,B.N c->N c)->Sep X N w0 w' K)/\(N=N)/\(∀ c,N c->N1 c)) ∧
 (∀ {f:(Nat->Prop)->As},Ab f->∀ {w':Wd} {K:List As},Sep X1 N1 w w' (f N1::K)->(∀ B∈K,∀ c,B.N c->N c)->Sep X N w0 w' (f N::K)):=by
 obtain⟨Y,h1,h2⟩:=H.ex;obtain⟨⟨rb,ib,r1,r2,r3⟩,h4,h5⟩:=h1 0 _ rfl;have qc:∀ c,c∈(rb++(List.range L.length).flatMap (λi=>Y (i+1)))↔c∈rb∨∃ i,i<L.length/\c∈Y (i+1):=λc=>vK;have own:∀ i,i<L.length->∀ c∈Y (i+1),c<w.heap.size/\(c∈X∨w0.heap.size<=c):=λi hi c hc=>(h1 (i+1) L[i] (by simp [hi])).2.2 c hc;have qh:∀ c∈ib,c<w.heap.size:=r1.mem
 have qa:∀ c,c∈(rb++(List.range L.length).flatMap (λi=>Y (i+1)))->c∈X∨w0.heap.size<=c:=λc hc=>by
  rcases(qc c).1 hc with h | ⟨i,hi,h⟩
  ·exact(h5 c (r2 c h)).2
  ·exact(own i hi c h).2
 have qd:∀ c,(N c∨c∈ib)->c ∉ (rb++(List.range L.length).flatMap (λi=>Y (i+1))):=λc hc hm=>by
  have qi:N c->False:=λhn=>Sep.own (i:=0) (qa c hm) H hn
  rcases hc with hc | hc
  ·exact qi hc
  ·rcases(qc c).1 hm with h | ⟨i,hi,h⟩
   ·exact r1.dj c h hc
   ·rcases r3 c hc with h6 | h6
    ·exact h2 0 (i+1) vK (by simp [hi]) xG c h6 h
    ·exact qi (h4 c h6)
 have fr:∀ {w':Wd} {K:List As},Sep (rb++(List.range L.length).flatMap (λi=>Y (i+1))) (λc=>N c∨c∈ib) w w' K->B5 X w0 w':=λ{w' K} S=>
  ⟨S.fr.os.trans H.fr.os,S.fr.tape.trans H.fr.tape,S.fr.output.trans H.fr.output,Cb H.fr.size S.fr.size,λk hk hn=>by
   rw[S.fr.block k (Au hk H.fr.size) (λhm=>by rcases qa k hm with h | h;exact hn h;omega),H.fr.block k hk hn]⟩
 refine⟨rb++(List.range L.length).flatMap (λi=>Y (i+1)),λc=>N c∨c∈ib,λh=>(h.to H.sm).mono (λc hc=>.inl hc),⟨B5.refl _ _,λc hc=>⟨?_,qd c hc⟩,λi=>match i with | 0=>rb | i+1=>Y (i+1),λi B hi=>?_,λi j hi hj qe=>?_⟩,⟨λ{w' K} S hN=>?_,rfl,λc hc=>.inl hc⟩,λ{f} hf {w' K} S hN=>?_⟩
 ·rcases hc with hc | hc
  ·exact Au (H.nb c hc).1 H.fr.size
  ·exact qh c hc
 ·cases i with
  | zero=>
   simp at hi
   subst hi;exact⟨⟨rb,ib,r1,λc hc=>hc,λc hc=>.inr hc⟩,λc hc=>hc,λc hc=>⟨(h5 c (r2 c hc)).1,.inl ((qc c).2 (.inl hc))⟩⟩
  | succ i=>
   obtain⟨h6,h7,h8⟩:=h1 (i+1) B (vV hi);have qk:=(Ac.1 (by simpa using hi:L[i]?=some B)).1;exact⟨h6,λc hc=>.inl (h7 c hc),λc hc=>⟨(h8 c hc).1,.inl ((qc c).2 (.inr ⟨i,qk,hc⟩))⟩⟩
 ·have key:∀ k,k<L.length->Dj rb (Y (k+1)):=λk hk c hc qf=>h2 0 (k+1) vK (by simp [hk]) xG c (r2 c hc) qf
  cases i with
  | zero=>
   cases j with
   | zero=>exact absurd rfl qe
   | succ j=>exact key j (vV hj)
  | succ i=>
   cases j with
   | zero=>exact(key i (vV hi)).symm
   | succ j=>exact h2 (i+1) (j+1) (vV hi) (vV hj) xG
 ·obtain⟨Z,g1,g2⟩:=S.ex
  refine⟨fr S,H.nb,Z,λi B hi=>?_,g2⟩;obtain⟨g3,g4,g5⟩:=g1 i B hi;refine⟨g3,hN B (Af hi),λc hc=>⟨(g5 c hc).1,?_⟩⟩
  rcases(g5 c hc).2 with h | h
  ·exact qa c h
  ·exact .inr (Cb H.fr.size h)
 ·obtain⟨Z,g1,g2⟩:=S.ex
  have g0:=g1 0 _ rfl;have qg:(f N::K).length=(f (λc=>N c∨c∈ib)::K).length:=vK
  have hY:∀ c,c∈ib.filter (λc=>decide (c∈Y 0))->c∈ib/\c∈Y 0:=λc hc=>by simpa using hc
  have key:∀ k,k<(f (λc=>N c∨c∈ib)::K).length->Dj (ib.filter (λc=>decide (c∈Y 0))) (Z k):=λk hk c hc qf=>by
   obtain⟨q1,q2⟩:=hY c hc
   rcases((g1 k _ (Aa hk)).2.2 c qf).2 with h | h
   ·exact qd c (.inr q1) h
   ·have:=qh c q1
    omega
  refine⟨fr S,H.nb,λi=>match i with | 0=>Z 0++ib.filter (λc=>decide (c∈Y 0)) | i+1=>Z (i+1),λi B hi=>?_,λi j hi hj qe=>?_⟩
  ·cases i with
   | zero=>
    simp at hi
    subst hi;refine⟨hf.2 (λc h=>?_) g0.1,λc hc=>hf.1 _ c hc,λc hc=>?_⟩
    ·rcases h with h | h
     ·exact .inl h
     ·rcases r3 c h with h6 | h6
      ·exact .inr (by simp [h,h6])
      ·exact .inl (h4 c h6)
    ·rcases Aj.1 hc with hc | hc
     ·refine⟨(g0.2.2 c hc).1,?_⟩
      rcases(g0.2.2 c hc).2 with h | h
      ·exact qa c h
      ·exact .inr (Cb H.fr.size h)
     ·obtain⟨q1,q2⟩:=hY c hc
      exact⟨Au (h5 c q2).1 S.fr.size,(h5 c q2).2⟩
   | succ i=>
    have qj:K[i]?=some B:=vV hi;obtain⟨g3,g4,g5⟩:=g1 (i+1) B (vV qj);refine⟨g3,hN B (Af qj),λc hc=>⟨(g5 c hc).1,?_⟩⟩
    rcases(g5 c hc).2 with h | h
    ·exact qa c h
    ·exact .inr (Cb H.fr.size h)
  ·rw[qg] at hi hj
   cases i with
   | zero=>
    cases j with
    | zero=>exact absurd rfl qe
    | succ j=>exact Dj.app' (g2 0 (j+1) hi hj xG) (key (j+1) hj)
   | succ i=>
    cases j with
    | zero=>exact(Dj.app' (g2 0 (i+1) hj hi xG) (key (i+1) hi)).symm
    | succ j=>exact g2 (i+1) (j+1) hi hj qe
end
theorem Sm.symm {N w w'} (h:Sm N w w'):Sm N w' w:=⟨λc hc=>(h.blk c hc).symm⟩
section
variable {P:Program} {a:Act} {w w1:Wd} {n:Nat} {L:List (Nat×Vl)} {d:Option Tmp} {ty:Ty} {pos:String} {af:Array Edge} {g:Option (Nat×Bool)} {M N:Nat->Prop}
theorem oCo {α:Type} {sz:Nat} {R:ER α} {iy:Operand} {t:Ty} {v:Vl} {l:List α} {e:Ty} {i:Int} {y:α} (ht:P.underlying t=some (.slice e)) (qd:∀ w,(sizeOf e).run P w= .ok sz w)
 (F:Sk a n L) (he:ev L x=some v) (hi:ev L iy=some (.int .i64 i)) (h:Bz M N w1 sz R v l) (qe:ix l i=some y) :
 ∃ p,(∀ w',(execOp a.eval ⟨d,.indexAddr t x iy,ty,pos,af,g⟩).run P w'= .ok (.value p) w')/\Pz M N w1 sz R p y:=by
 obtain⟨bs,qa,hb⟩:=h;obtain⟨h0,hy⟩:=aE qe;obtain⟨hk,rfl⟩:=Ac.1 hy;obtain⟨a',c',rfl,h1,h2,h3,h4⟩:=qa.r.open;obtain⟨b,o,bss,bi,rfl,rfl,_,qf,hs,hr⟩:=h4 i.toNat hk;obtain⟨q1,q2⟩:=hb b _ rfl;refine⟨.pointer (some ⟨b,o+i.toNat*sz,none⟩),λw'=>?_,b,bi,⟨⟨b,_,bi,rfl,rfl,hr⟩,λc hc=>?_⟩,q1,λc hc=>q2 c (Bl.2 ⟨_,Af qf,hc⟩)⟩
 ·have qc:=cJ b o (i.toNat*sz)
  unfold execOp
  simp only[F.ev he,F.ev hi];have qg:i<(l.length:Int):=xG
  simp [Instr.indexAt,run_underlying ht,asIntOf,h0,qg,qd,qc]
 ·rcases Av.1 hc with rfl | hc
  ·exact qa.m _ vK
  ·exact qa.m _ (hs c hc)
theorem xQo {α β:Type} {sz s':Nat} {R:ER α} {R':ER β} {t:Ty} {kk:Nat} {p:Vl} {y:α} {z:β} {off:Nat} (hp:∀ (a:Addr) w,(Instr.fieldAt t (.pointer (some a)) kk).run P w= .ok (.pointer (some (a.add off))) w) (F:Sk a n L) (he:ev L x=some p) (h:Pz M N w1 sz R p y) (hf:∀ f bi,R w1 f y bi->∃ bj,R' w1 (λj=>f (off+j)) z bj/\∀ c∈bj,c∈bi):∃ p',(∀ w',(execOp a.eval ⟨d,.fieldAddr t x kk,ty,pos,af,g⟩).run P w'= .ok (.value p') w')/\Pz M N w1 s' R' p' z:=by
 obtain⟨b0,bi0,⟨⟨b,o,bi,rfl,qa,hr⟩,hm⟩,hM,hN⟩:=h;obtain⟨rfl,rfl⟩:=List.cons.inj qa;obtain⟨bj,h1,h2⟩:=hf _ _ hr;refine⟨.pointer (some ⟨b0,o+off,none⟩),λw'=>?_,b0,bj,⟨⟨b0,o+off,bj,rfl,rfl,?_⟩,λc hc=>?_⟩,hM,λc hc=>hN c (h2 c hc)⟩
 ·unfold execOp
  simp only[F.ev he]
  simp [hp,cJ]
 ·simpa [Dn] using h1
 ·rcases Av.1 hc with rfl | hc
  ·exact hm _ vK
  ·exact hm c (by simp [h2 c hc])
theorem oHl {α:Type} {sz:Nat} {R:ER α} {t:Ty} {p:Vl} {y:List α} (qa:∀ w,(isAgg t).run P w= .ok false w) (F:Sk a n L) (he:ev L x=some p) (h:Pz M N w1 1 (zV sz R) p y):∃ v,Bo N w1 (Sl sz R) v y/\∀ w',Sm M w1 w'->(execOp a.eval ⟨d,.load t x,ty,pos,af,g⟩).run P w'= .ok (.value v) w':=by
 obtain⟨b0,bi0,⟨⟨b,o,bi,rfl,qc,v,h0,hr⟩,hm⟩,hM,hN⟩:=h;obtain⟨rfl,rfl⟩:=List.cons.inj qc;refine⟨v,⟨bi0,⟨hr,λc hc=>hm c (by simp [hc])⟩,hN⟩,λw' s=>nW qa F he ?_⟩;rw[pZ (s.blk b0 hM)]
 simpa using h0
end
section
variable {P:Program} {ops:Array Oper} {Q:Exit->Act->Wd->Prop} {a:Act} {w w0 w1:Wd} {n:Nat} {L:List (Nat×Vl)} {rest:List Oper} {d:Nat} {ty:Ty} {pos:String} {af:Array Edge} {g:Option (Nat×Bool)} {M N:Nat->Prop} {C:Wd->Prop} {K:Act->Prop}
theorem oIz {α:Type} {sz:Nat} {R:ER α} {iy:Operand} {t:Ty} {v:Vl} {l:List α} {e:Ty} {i:Int} {y:α} (ht:P.underlying t=some (.slice e)) (qa:∀ w,(sizeOf e).run P w= .ok sz w)
 (F:Sk a n L) (hc:vR ops n L g d=true) (he:ev L x=some v) (hi:ev L iy=some (.int .i64 i)) (h:Bz M N w1 sz R v l) (qc:ix l i=some y)
 (k:∀ a' p,Pz M N w1 sz R p y->Sk a' n ((d,p)::L)->wpList P ops Q rest a' w):wpList P ops Q (⟨some d,.indexAddr t x iy,ty,pos,af,g⟩::rest) a w:=
 let ⟨p,hr,hp⟩:=oCo ht qa F he hi h qc;zT F hc (hr w) (λa' F'=>k a' p hp F')
theorem oFz {α β:Type} {sz s':Nat} {R:ER α} {R':ER β} {t:Ty} {kk:Nat} {p:Vl} {y:α} {z:β} {off:Nat} (hp:∀ (a:Addr) w,(Instr.fieldAt t (.pointer (some a)) kk).run P w= .ok (.pointer (some (a.add off))) w)
 (F:Sk a n L) (hc:vR ops n L g d=true) (he:ev L x=some p) (h:Pz M N w1 sz R p y) (hf:∀ f bi,R w1 f y bi->∃ bj,R' w1 (λj=>f (off+j)) z bj/\∀ c∈bj,c∈bi)
 (k:∀ a' p',Pz M N w1 s' R' p' z->Sk a' n ((d,p')::L)->wpList P ops Q rest a' w):wpList P ops Q (⟨some d,.fieldAddr t x kk,ty,pos,af,g⟩::rest) a w:=
 let ⟨p',hr,h'⟩:=xQo (s':=s') hp F he h hf;zT F hc (hr w) (λa' F'=>k a' p' h' F')
theorem qFz {α β:Type} {sz s':Nat} {R:ER α} {R':ER β} {t:Ty} {kk:Nat} {p:Vl} {y:α} {z:β} {off:Nat} (hp:∀ (a:Addr) w,(Instr.fieldAt t (.pointer (some a)) kk).run P w= .ok (.pointer (some (a.add off))) w)
 (F:Sk a n L) (hc:vR ops n L g d=true) (he:ev L x=some p) (h:Pz M N w1 sz R p y) (hf:∀ f bi,R w1 f y bi->∃ bj,R' w1 (λj=>f (off+j)) z bj/\∀ c∈bj,c∈bi)
 (k:∀ a' p',Pz M N w1 s' R' p' z->Sk a' n ((d,p')::L)->wpQuiet P ops C K rest a'):wpQuiet P ops C K (⟨some d,.fieldAddr t x kk,ty,pos,af,g⟩::rest) a:=
 let ⟨p',hr,h'⟩:=xQo (s':=s') hp F he h hf;nE F hc (λw' _=>hr w') (λa' F'=>k a' p' h' F')
theorem vFz {α β:Type} {sz s':Nat} {R:ER α} {R':ER β} {t:Ty} {kk:Nat} {p:Vl} {y:α} {z:β} {off:Nat} (hp:∀ (a:Addr) w,(Instr.fieldAt t (.pointer (some a)) kk).run P w= .ok (.pointer (some (a.add off))) w)
 (F:Sk a n L) (hc:vR ops n L g d=true) (he:ev L x=some p) (h:Pz M N w1 sz R p y) (hf:∀ f bi,R w1 f y bi->∃ bj,R' w1 (λj=>f (off+j)) z bj/\∀ c∈bj,c∈bi)
 (k:∀ a' p',Pz M N w1 s' R' p' z->Sk a' n ((d,p')::L)->K a'):wpV P ops C K ⟨some d,.fieldAddr t x kk,ty,pos,af,g⟩ a:=
 let ⟨p',hr,h'⟩:=xQo (s':=s') hp F he h hf;fV F hc (λw' _=>hr w') (λa' F'=>k a' p' h' F')
theorem olSz {α:Type} {sz:Nat} {R:ER α} {t:Ty} {p:Vl} {y:List α} (qa:∀ w,(isAgg t).run P w= .ok false w) (F:Sk a n L) (hc:vR ops n L g d=true) (he:ev L x=some p) (s:Sm M w1 w) (h:Pz M N w1 1 (zV sz R) p y)
 (k:∀ a' v,Bo N w1 (Sl sz R) v y->Sk a' n ((d,v)::L)->wpList P ops Q rest a' w):wpList P ops Q (⟨some d,.load t x,ty,pos,af,g⟩::rest) a w:=
 let ⟨v,hv,hr⟩:=oHl qa F he h;zT F hc (hr w s) (λa' F'=>k a' v hv F')
theorem qlSz {α:Type} {sz:Nat} {R:ER α} {t:Ty} {p:Vl} {y:List α} (qa:∀ w,(isAgg t).run P w= .ok false w) (F:Sk a n L) (hc:vR ops n L g d=true) (he:ev L x=some p) (s:∀ w',C w'->Sm M w1 w') (h:Pz M N w1 1 (zV sz R) p y)
 (k:∀ a' v,Bo N w1 (Sl sz R) v y->Sk a' n ((d,v)::L)->wpQuiet P ops C K rest a'):wpQuiet P ops C K (⟨some d,.load t x,ty,pos,af,g⟩::rest) a:=
 let ⟨v,hv,hr⟩:=oHl qa F he h;nE F hc (λw' l=>hr w' (s w' l)) (λa' F'=>k a' v hv F')
theorem vlSz {α:Type} {sz:Nat} {R:ER α} {t:Ty} {p:Vl} {y:List α} (qa:∀ w,(isAgg t).run P w= .ok false w) (F:Sk a n L) (hc:vR ops n L g d=true) (he:ev L x=some p) (s:∀ w',C w'->Sm M w1 w') (h:Pz M N w1 1 (zV sz R) p y)
 (k:∀ a' v,Bo N w1 (Sl sz R) v y->Sk a' n ((d,v)::L)->K a'):wpV P ops C K ⟨some d,.load t x,ty,pos,af,g⟩ a:=
 let ⟨v,hv,hr⟩:=oHl qa F he h;fV F hc (λw' l=>hr w' (s w' l)) (λa' F'=>k a' v hv F')
end
end
section
open Go.RowKit
section
variable {P:Program} {ops:Array Oper} {Q:Exit->Act->Wd->Prop} {a:Act} {w w0 w1:Wd} {n:Nat} {L:List (Nat×Vl)} {rest:List Oper} {d:Nat} {ty:Ty} {pos:String} {af:Array Edge} {g:Option (Nat×Bool)} {M N N1:Nat->Prop} {X:List Nat} {D:List As}
end
end
section
open Go.RowKit
section
variable {P:Program} {ops:Array Oper} {Q:Exit->Act->Wd->Prop} {a:Act} {w w0 w1:Wd} {n:Nat} {L:List (Nat×Vl)} {rest:List Oper} {d:Nat} {ty:Ty} {pos:String} {af:Array Edge} {g:Option (Nat×Bool)}
end
end
section
open Go.RowKit
theorem ix3 {l i z} (h:ix l i=some z):(l.map (Value.int .i64))[i.toNat]?=some (.int .i64 z):=by
 rw[Bc,(aE h).2];rfl
theorem Eo.ptr {N:Nat->Prop} {w:Wd} {α:Type} {sz:Nat} {R:ER α} {v:Vl} {x:α} (h:Bo N w (Pt sz R) v x):Eo N w 1 (RP sz R) v x:=by
 obtain⟨bs,⟨⟨b,o,bi,rfl,e,hr⟩,hm⟩,hN⟩:=h;exact⟨bs,⟨rfl,⟨_,rfl,⟨b,o,bi,rfl,e,hr⟩⟩,by simp [Value.cells,Value.oneCell'],hm⟩,hN⟩
theorem Bk.w {w w' b cs T} (h:Bk (All w) w b cs T) (l:Below w.heap.size w w'):Bk (All w') w' b cs T:=
 let q:=(Bk.o h (Sm.all l));⟨q,q.lt⟩
section
variable {P:Program} {ops:Array Oper} {Q:Exit->Act->Wd->Prop} {C:Wd->Prop} {K:Act->Prop} {a:Act} {w:Wd} {n:Nat} {L:List (Nat×Vl)} {rest:List Oper} {d:Nat} {dd:Option Tmp} {ty:Ty} {pos:String} {af:Array Edge} {g:Option (Nat×Bool)}
theorem xMn {nn t e z parts ps idx xs vs cs} (ht:P.underlying t=some (.array nn e)) (hz:∀ w,(zeroValue t).run P w= .ok z w)
 (qc:∀ w,(sizeOf e).run P w= .ok 1 w) (F:Sk a n L) (hp:parts.toList=ps) (h1:ps.map Prod.fst=idx) (h2:ps.map Prod.snd=xs) (hx:evs L xs=some vs) (hone:∀ v∈vs,v.oneCell'=true) (qd:idx.all (λi=>decide (i<z.cells.size))=true)
 (qe:(idx.zip vs).foldl (λcs p=>cs.setIfInBounds p.1 p.2) z.cells=cs) {w'}:(execOp a.eval ⟨dd,.build t parts,ty,pos,af,g⟩).run P w'= .ok (.value (.agg cs)) w':=by
 have hv:=F.evs hx
 have qa:(parts.map λ(i,x)=>(i,a.eval x)).toList=idx.zip vs:=by
  rw[Array.toList_map,hp,<- h1,<- hv,<- h2];exact(xCw a.eval ps).symm
 have hf:=xJw (λi=>some (i*1,1)) (idx.zip vs) z.cells (λp hp=>by
  obtain⟨hi,qf⟩:=List.of_mem_zip hp;have:=Cm.1 qd p.1 hi;simp only[Bj] at this
  exact⟨hone _ qf,by rw[Cj],this⟩)
 rw[qe] at hf
 unfold execOp
 simp only[Instr.build,Sem.run_bind,hz,Result.andThen_ok,run_underlying ht,qc];rw[qa,hf]
 rfl
theorem oAh {nn t e z parts ps idx xs vs cs} (ht:P.underlying t=some (.array nn e)) (hz:∀ w,(zeroValue t).run P w= .ok z w) (qa:∀ w,(sizeOf e).run P w= .ok 1 w) (F:Sk a n L) (hc:vR ops n L g d=true) (hp:parts.toList=ps) (h1:ps.map Prod.fst=idx) (h2:ps.map Prod.snd=xs) (hx:evs L xs=some vs) (hone:∀ v∈vs,v.oneCell'=true) (qc:idx.all (λi=>decide (i<z.cells.size))=true) (qd:(idx.zip vs).foldl (λcs p=>cs.setIfInBounds p.1 p.2) z.cells=cs) (k:∀ a',Sk a' n ((d,.agg cs)::L)->wpList P ops Q rest a' w):wpList P ops Q (⟨some d,.build t parts,ty,pos,af,g⟩::rest) a w:= zT F hc (xMn ht hz qa F hp h1 h2 hx hone qc qd) k
theorem oKb {nn:Nat} {t e} {x y} {l} {cs} {i z} (ht:P.underlying t=some (.array nn e)) (qc:∀ w,(isAgg e).run P w= .ok false w) (qd:∀ w,(sizeOf e).run P w= .ok 1 w) (F:Sk a n L) (hc:vR ops n L g d=true) (he:ev L x=some (.agg cs)) (hi:ev L y=some (.int .i64 i)) (hl:cs.toList=l.map (Value.int .i64)) (hn:l.length=nn) (qa:ix l i=some z)
 (k:∀ a',Sk a' n ((d,.int .i64 z)::L)->wpList P ops Q rest a' w):wpList P ops Q (⟨some d,.index t x y,ty,pos,af,g⟩::rest) a w:=by
 obtain⟨h0,hz⟩:=aE qa
 have qe:i<(nn:Int):=by
  have:=(Ac.1 hz).1
  omega
 have hg:cs[i.toNat]?=some (.int .i64 z):=by
  rw[<- Du,hl];exact ix3 qa
 refine zT F hc ?_ k
 unfold execOp
 simp only[F.ev he,F.ev hi]
 simp [Instr.index,run_underlying ht,asIntOf,h0,qe,qd,part,qc,hg]
theorem oFc {nn b:Nat} {t e:Ty} {x y:Operand} {i:Int} (ht:P.underlying t=some (.array nn e)) (qc:∀ w,(sizeOf e).run P w= .ok 1 w) (F:Sk a n L) (hc:vR ops n L g d=true) (he:ev L x=some (.pointer (some ⟨b,0,none⟩))) (hi:ev L y=some (.int .i64 i)) {l:List Int} {z:Int} (hn:l.length=nn) (qd:ix l i=some z)
 (k:∀ a',Sk a' n ((d,.pointer (some ⟨b,i.toNat,none⟩))::L)->wpList P ops Q rest a' w):wpList P ops Q (⟨some d,.indexAddr t x y,ty,pos,af,g⟩::rest) a w:=by
 obtain⟨h0,hz⟩:=aE qd
 have qe:i<(nn:Int):=by
  have:=(Ac.1 hz).1
  omega
 refine zT F hc ?_ k;have qa:=cJ b 0 i.toNat;rw[Bn] at qa
 unfold execOp
 simp only[F.ev he,F.ev hi]
 simp [Instr.indexAt,Instr.sureAddr,run_underlying ht,asIntOf,h0,qe,qc,qa]
end
end
section
open Go.RowKit
def bM {α:Type} (sz:Nat) (R:ER α) (E2:Ty):ER (List α):=λw f xs bs=>∃ u rb ib,f 0=some u/\Row sz R E2 0 w u xs rb ib/\bs=rb++ib
theorem Row.keep' {α:Type} {sz:Nat} {R:ER α} [hR:FrC sz R] {E:Ty} {w w':Wd} {v:Vl} {l:List α} {rb ib:List Nat} (h:Row sz R E 0 w v l rb ib) (h1:pJ (rb++ib) w w'):Row sz R E 0 w' v l rb ib:=by
 have hm:kH ib w':=λc hc=>by
  have h2:=h1 c (Bm _ hc);rw[Dc (h.mem c hc)] at h2;exact(Cz.1 h2).1
 obtain⟨xs,bss,ho,hl,rfl,he⟩:=h.row;have hrb:=h.hrb;refine⟨⟨xs,bss,⟨ho.1,?_⟩,hl,rfl,λi x bi hx hi=>hR.fr _ _ _ _ x bi (he i x bi hx hi) (λc hc=>h1 c (Bm _ (Bl.2 ⟨bi,Af hi,hc⟩))) (λ_ _=>rfl)⟩,hrb,hm,h.dj⟩
 rcases ho.2 with h3 | ⟨g,cap,cur,rfl,h3,h4,h5⟩
 ·exact .inl h3
 ·refine .inr ⟨g,cap,cur,rfl,h3,?_,h5⟩
  rw[h1 g (Bq _ (by rw[hrb];simp [uA,Value.ownBlock]))];exact h4
theorem Row.one {α:Type} {sz:Nat} {R:ER α} {E:Ty} {w:Wd} {v:Vl} {l:List α} {rb ib:List Nat} (h:Row sz R E 0 w v l rb ib):v.oneCell'=true:=by
 obtain⟨xs,bss,ho,_⟩:=h.row
 rcases ho.2 with ⟨rfl,_⟩ | ⟨g,cap,cur,rfl,_⟩<;>rfl
instance {α:Type} {sz:Nat} {R:ER α} [hR:FrC sz R] {E2:Ty}:FrC 1 (bM sz R E2):=⟨λw w' f g x bs ⟨u,rb,ib,h0,h1,h2⟩ hs hg=>by
 subst h2
 exact⟨u,rb,ib,(hg 0 xG).trans h0,h1.keep' hs,rfl⟩,λw f x bs ⟨u,rb,ib,h0,h1,h2⟩ j hj=>by
 obtain rfl:j=0:=xG
 exact⟨u,h0,h1.one⟩⟩
theorem bM.nil {α sz R E2} (w:Wd):bM sz R E2 w (λj=>[Value.slice none 0 0][j]?) ([]:List α) []:= ⟨_,[],[],rfl,⟨⟨[],[],World.ownsRow_nil w 0 E2 sz,rfl,rfl,λi x bi hx=>by cases i<;>cases hx⟩,rfl,kH.nil w,λ_ h=>nomatch h⟩,rfl⟩
def RH {α:Type} (sz:Nat) (R:ER α) (E2:Ty):ER (Vl ⊕ List α):=λw f x bs=>match x with
 | .inl u=>f 0=some u/\u.oneCell'=true/\bs=[]
 | .inr l=>bM sz R E2 w f l bs
instance {α:Type} {sz:Nat} {R:ER α} [hR:FrC sz R] {E2:Ty}:FrC 1 (RH sz R E2):=⟨λw w' f g x bs h hs hg=>by
 cases x with
 | inl u=>exact⟨(hg 0 xG).trans h.1,h.2⟩
 | inr l=>exact(inferInstance:FrC 1 (bM sz R E2)).fr _ _ _ _ _ _ h hs hg,λw f x bs h j hj=>by
 cases x with
 | inl u=>
  obtain rfl:j=0:=xG;exact⟨u,h.1,h.2.1⟩
 | inr l=>exact(inferInstance:FrC 1 (bM sz R E2)).tot _ _ _ _ h j hj⟩
section
variable {X:List Nat} {N:Nat->Prop} {w0 w:Wd} {D:List As} {α:Type} {sz:Nat} {R:ER α} [hR:FrC sz R] {E E2:Ty} {v:Vl}
theorem Sep.rr {xss} (H:Sep X N w0 w (rl 1 (bM sz R E2) E v xss::D)):Sep X N w0 w (rl 1 (zV sz R) E v xss::D):=by
 obtain⟨Y,⟨rb,ib,r1,qa,r2,r3⟩,hN,hY,tr⟩:=H.hd;refine tr (Z:=[]) (λ_ h=>nomatch h) (B5.refl _ _) (B:=rl 1 (zV sz R) E v xss) (Y1:=Y) ⟨rb,ib,⟨?_,r1.hrb,r1.mem,r1.dj⟩,qa,r2,r3⟩ n0 (λc hc=>⟨.inl hc,(hY c hc).1⟩);obtain⟨xs,bss,ho,hl,qc,he⟩:=r1.row;refine⟨xs,bss,ho,hl,qc,λi x bi hx hi=>?_⟩;obtain⟨u,rb',ib',h0,h1,rfl⟩:=he i x bi hx hi;exact⟨u,h0,h1.rd.r⟩
theorem Sep.rh {xss} (H:Sep X N w0 w (rl 1 (RH sz R E2) E v (xss.map .inr)::D)):Sep X N w0 w (rl 1 (bM sz R E2) E v xss::D):=by
 obtain⟨Y,⟨rb,ib,r1,qa,r2,r3⟩,hN,hY,tr⟩:=H.hd;refine tr (Z:=[]) (λ_ h=>nomatch h) (B5.refl _ _) (B:=rl 1 (bM sz R E2) E v xss) (Y1:=Y) ⟨rb,ib,⟨?_,r1.hrb,r1.mem,r1.dj⟩,qa,r2,r3⟩ n0 (λc hc=>⟨.inl hc,(hY c hc).1⟩);obtain⟨xs,bss,ho,hl,qc,he⟩:=r1.row;rw[Bw] at ho hl;exact⟨xs,bss,ho,hl,qc,λi x bi hx hi=>he i (.inr x) bi (by rw[Bc,hx];rfl) hi⟩
theorem El.rr {u l rb ib} (h:Row sz R E2 0 w u l rb ib):El 1 (RH sz R E2) w u (.inr l) (rb++ib):=by
 obtain⟨a,c,e⟩:=h.rd.r.val;subst e;exact⟨rfl,⟨_,rb,ib,rfl,h,rfl⟩,by simp [Value.cells,Value.oneCell'],h.rd.m⟩
end
theorem ixh {α xss k u l} (h:ix xss k=some l):ix ((xss.map Sum.inr).set k.toNat (Sum.inl u)) k=some (.inl u:Vl ⊕ List α):=by
 obtain⟨h0,h1⟩:=aE h
 unfold ix
 rw[if_pos h0,Ai (by rw[Bw];exact(Ac.1 h1).1)]
section
variable {P:Program} {ops:Array Oper} {Q:Exit->Act->Wd->Prop} {a:Act} {w w0 w1:Wd} {n:Nat} {L:List (Nat×Vl)} {rest:List Oper} {d:Nat} {ty:Ty} {pos:String} {af:Array Edge} {g:Option (Nat×Bool)} {M N N1:Nat->Prop} {X:List Nat} {D:List As}
theorem oFoR {α:Type} {sz:Nat} {R:ER α} [hR:FrC sz R] {x:Operand} {t E E2:Ty} {v p:Vl} {xss:List (List α)} {i:Nat} {l:List α} (qp:∀ w,(isAgg t).run P w= .ok false w) (F:Sk a n L) (hc:vR ops n L g d=true) (he:ev L x=some p) (H:Sep X N w0 w (rl 1 (bM sz R E2) E v xss::D)) (hp:RPt v 1 i p) (hi:xss[i]?=some l)
 (k:∀ a' u,Sep X N w0 w (rl sz R E2 u l::rl 1 (RH sz R E2) E v ((xss.map .inr).set i (.inl u))::D)->Sk a' n ((d,u)::L)->wpList P ops Q rest a' w):wpList P ops Q (⟨some d,.load t x,ty,pos,af,g⟩::rest) a w:=by
 obtain⟨Y,⟨rb,ib,r1,qc,r2,r3⟩,hN,hY,tr⟩:=H.hd;obtain⟨g2,m,c,rfl,rfl⟩:=hp;obtain⟨qq,hil2⟩:=Ac.1 hi;obtain⟨xs,bss,ho,hl,qh,ql⟩:=r1.row;have qi:i<bss.length:=xG;have qm:=Aa qi;obtain⟨u,rbu,ibu,hu,qn,qf⟩:=ql i l bss[i] hi qm;simp only[Cj,Cd] at hu
 have qe:w.cell? ⟨g2,i*1,none⟩=some u:=by
  have:=ho.cells (g:=g2) rfl i u hu;rw[cJ] at this
  simpa using this
 have qj:=uN (by rw[qh];exact qc.1) qm
 have qd:∀ c∈bss[i],c∈ib:=λc hc=>by rw[<- qh];exact Bl.2 ⟨_,Bs qi,hc⟩
 have qa:∀ c∈(bss.set i []).flatten,c∈ib:=λc hc=>by rw[<- qh];exact eZ hc
 have hole:Row 1 (RH sz R E2) E 0 w (.slice (some ⟨g2,0,none⟩) m c) ((xss.map .inr).set i (.inl u)) rb (bss.set i []).flatten:=by
  refine⟨⟨xs,bss.set i [],vV ho,by simp [hl],rfl,λj y bj hy qg=>?_⟩,r1.hrb,λc hc=>r1.mem c (qa c hc),λc hc qk=>r1.dj c hc (qa c qk)⟩
  by_cases qo:j=i
  ·subst qo
   rw[Ai (vV qq)] at hy;rw[Ai qi] at qg
   cases hy
   cases qg
   exact⟨by simpa using hu,qn.one,rfl⟩
  ·rw[Ak (λe=>qo e.symm)] at hy qg
   rw[Bc,Eb] at hy;obtain⟨z,hz,rfl⟩:=hy;exact ql j z bj hz qg
 refine zT F hc (nW qp F he qe) (λa' F'=>k a' u ?_ F');refine Sep.um (tr (Z:=[]) (λ_ h=>nomatch h) (B5.refl _ _) (B:=pr (rl sz R E2 u l) (rl 1 (RH sz R E2) E (.slice (some ⟨g2,0,none⟩) m c) ((xss.map .inr).set i (.inl u)))) (Y1:=Y) ⟨bss[i],rb++(bss.set i []).flatten,⟨rbu,ibu,qn,⟨(Ci.1 (qf ▸ qj.1)).2.1,λc hc=>qc.2 c (qd c (by rw[qf];exact Bm _ hc))⟩,λc hc=>by rw[qf];exact Bq _ hc,λc hc=>by rw[qf];exact Bm _ hc⟩,⟨rb,_,hole,⟨qj.2.1,λc hc=>qc.2 c (qa c hc)⟩,λc hc=>Bq _ hc,λc hc=>Bm _ hc⟩,λc hc qk=>?_,λc hc=>r3 c (qd c hc),λc hc=>?_⟩ (λc hc=>hc.elim (n0 c) (n0 c)) (λc hc=>⟨.inl hc,(hY c hc).1⟩))
 ·rcases Aj.1 qk with h | h
  ·exact r1.dj c h (qd c hc)
  ·exact qj.2.2 c hc h
 ·rcases Aj.1 hc with h | h
  ·exact r2 c h
  ·exact r3 c (qa c h)
theorem oSfR {α:Type} {sz:Nat} {R:ER α} [hR:FrC sz R] {x y:Operand} {t E E2:Ty} {v p u u0:Vl} {xss l':List (List α)} {i:Nat} {l:List α} (qd:∀ w,(sizeOf t).run P w= .ok 1 w)
 (F:Sk a n L) (hc:gok ops L g=true) (hx:ev L x=some p) (hy:ev L y=some u) (H:Sep X N w0 w (rl 1 (RH sz R E2) E v ((xss.map .inr).set i (.inl u0))::rl sz R E2 u l::D)) (hp:RPt v 1 i p) (hi:i<((xss.map Sum.inr).set i (Sum.inl u0):List (Vl ⊕ List α)).length) (hl:xss.set i l=l')
 (k:∀ w',Sep X N w0 w' (rl 1 (bM sz R E2) E v l'::D)->wpList P ops Q rest a w'):wpList P ops Q (⟨none,.store t x y,ty,pos,af,g⟩::rest) a w:=by
 obtain⟨Y,⟨Y1,Y2,⟨rb,ib,r1,ro,r2,r3⟩,⟨rb2,ib2,s1,so,s2,s3⟩,dj,y1,y2⟩,hN,hY,tr⟩:=H.mg.hd;subst hl;have hm:∀ c,c∈rb2++ib2->c∈Y2:=λc hc=>(Aj.1 hc).elim (s2 c) (s3 c);have qa:=s1.own so;refine xFg qd F hc hx hy r1 hp hi (El.rr s1) s1.one (λc hc qc=>dj c (r2 c hc) (hm c qc)) (λw' ib' q o hs hn=>k w' (Sep.rh ?_))
 have e:((xss.map Sum.inr).set i (Sum.inl u0):List (Vl ⊕ List α)).set i (.inr l)=(xss.set i l).map .inr:=by rw[Ed,List.map_set]
 rw[e] at q;refine tr (Z:=rb) (λc hc=>y1 c (r2 c hc)) o (B:=rl 1 (RH sz R E2) E v ((xss.set i l).map .inr)) (Y1:=Y) ⟨rb,ib',q,⟨hn ro.1 qa.1 (λc hc qc=>dj c (r3 c hc) (hm c qc)),λc hc=>?_⟩,λc hc=>y1 c (r2 c hc),λc hc=>(hs c hc).elim (λh=>y1 c (r3 c h)) (λh=>y2 c (hm c h))⟩ n0 (λc hc=>⟨.inl hc,Au (hY c hc).1 o.size⟩)
 have hk:∀ c,c∈ib∨c∈rb2++ib2->c<w.heap.size/\c ∉ rb/\0<=c/\∃ cur e,w.heap[c]?=some (.cells cur e (0,0)):=λc hc=>by
  rcases hc with h | h
  ·exact⟨r1.mem c h,λh'=>r1.dj c h' h,ro.2 c h⟩
  ·exact⟨qa.inMem c h,λh'=>dj c (r2 c h') (hm c h),qa.2 c h⟩
 obtain⟨h1,h2,h3,h4⟩:=hk c (hs c hc);exact⟨h3,by rw[o.block c h1 h2];exact h4⟩
end
end
section
open Go.RowKit
variable {x:Operand} {i:Int} {j:Int} {iy:Operand}
class Ug (P:Program) (t:Ty) (u:outParam _):Prop where
  h:P.underlying t=some u
class Sz (P:Program) (t:Ty) (s:outParam Nat):Prop where
  h:∀ w,(sizeOf t).run P w= .ok s w
class Ag (P:Program) (t:Ty) (b:outParam Bool):Prop where
  h:∀ w,(isAgg t).run P w= .ok b w
class Zv (P:Program) (t:Ty) (z:outParam Vl):Prop where
  h:∀ w,(zeroValue t).run P w= .ok z w
class If (P:Program) (E:Ty) (z:outParam Vl) (sz bytes:outParam Nat):Prop where
  h:(P.info? E).map (λi=>(i.zero,i.size,i.bytes))=some (some z,sz,bytes)
class Fd (P:Program) (t:Ty) (k:Nat) (off:outParam Nat):Prop where
  h:∀ (a:Addr) w,(Instr.fieldAt t (.pointer (some a)) k).run P w= .ok (.pointer (some (a.add off))) w
def okF (P:Program) (f:FuncId):Bool:=match P.funcs[f]? with
 | some fn=>fn.body.isSome && !(fn.name == "runtime.NumGoroutine")
 | none=>false
theorem okf {P:Program} {f:FuncId} (h:okF P f=true) (args:Array Vl) (w:Wd):(callFunc f args).run P w= .ok (.enter f args) w:=by
 unfold okF at h
 split at h
 ·rename_i fn hf
  rw[Bool.and_eq_true,Bool.not_eq_true'] at h
  unfold callFunc
  cases hb:fn.body with
  | none=>rw[hb] at h;cases h.1
  | some b=>simp [Sem.run,program,hf,beq_eq_false_iff_ne.1 h.2,hb]
 ·cases h
class Mo (P:Program):Prop where
  h:P.follows .mixedOrders=true
def Gq (P:Program) (ops:Array Oper) (X:List Nat) (N:Nat->Prop) (w0:Wd) (D:List As) (K:Act->Wd->Prop) (l:List Oper) (a:Act) (w:Wd):Prop:=wpQuiet P ops (λw'=>Below w.heap.size w w') (λa'=>∀ w',Sep X N w0 w' D->K a' w') l a
def bqc (ops:Array Oper) (ls:Array Bool) (i:Nat):Bool->Bool | true=>!cOp ops i && (Region.noSelect ops && (Region.free .any ops ls i && ((Region.ready .any ops ls).contains i && oAt ops ls))) | false=>Region.noSelect ops && (Region.free .any ops ls i && (Region.ready .any ops ls).contains i)
section
variable {P:Program} {ops:Array Oper} {Q Q':Exit->Act->Wd->Prop} {fn:Func} {n:Nat} {X:List Nat} {N M N1 Mv:Nat->Prop} {w0 w w1:Wd} {L L':List (Nat×Vl)} {D D':List As} {A B:As} {ρ σ τ:Type} {tt:Option ρ} {CC:ρ->Prop} {G G' K:Act->Wd->Prop} {R:Ending->Wd->Prop} {l l' rest:List Oper} {d f:Nat} {ls:Array Bool} {ty:Ty} {pos:String} {af:Array Edge} {g:Option (Nat×Bool)}
theorem bq {a i oi} (hb:bqc ops ls i true=true) (hi:ops[i]?=some oi) (h:wpV P ops (λw'=>Sm Mv w w') (λa'=>zE P ops K (Sm Mv) f (ls.setIfInBounds i true) a' w) oi a):zE P ops K (Sm Mv) (f+1) ls a w:=by
 simp only[bqc,Be,Bool.not_eq_true'] at hb;exact b_q i hb.1 hi hb.2.1 hb.2.2.1 hb.2.2.2.1 hb.2.2.2.2 h
theorem bz {a i oi} (hb:bqc ops ls i false=true) (hi:ops[i]?=some oi) (h:wpV P ops (λ_=>True) (λa'=>zE P ops K (Sm Mv) f (ls.setIfInBounds i true) a' w) oi a):zE P ops K (Sm Mv) (f+1) ls a w:=by
 simp only[bqc,Be] at hb;exact xUr i hi hb.1 hb.2.1 hb.2.2 h
theorem kE {y t t' z} (hz:ck (i+j)=some z) (kt:J n X N w0 ((d,.int .i64 z)::L) D tt CC (wpList P ops Q rest)) (hc:vR ops n L g d=true:=by rfl) (e:ev L x=some (.int .i64 i):=by rfl) (e':ev L y=some (.int .i64 j):=by rfl):J n X N w0 L D tt CC (wpList P ops Q (⟨some d,.binOp .add t x y t',ty,pos,af,g⟩::rest)):=⟨λa w F H xq qa qc=>oAv F hc e e' hz (λa' F'=>(kt).h a' w F' H xq qa qc)⟩
theorem fR {y t t' z} (hz:ck (i - j)=some z) (kt:J n X N w0 ((d,.int .i64 z)::L) D tt CC (wpList P ops Q rest)) (hc:vR ops n L g d=true:=by rfl) (e:ev L x=some (.int .i64 i):=by rfl) (e':ev L y=some (.int .i64 j):=by rfl):J n X N w0 L D tt CC (wpList P ops Q (⟨some d,.binOp .sub t x y t',ty,pos,af,g⟩::rest)):=⟨λa w F H xq qa qc=>oLl F hc e e' hz (λa' F'=>(kt).h a' w F' H xq qa qc)⟩
theorem wT {y t t' z} (hz:ck (i*j)=some z) (kt:J n X N w0 ((d,.int .i64 z)::L) D tt CC (wpList P ops Q rest)) (hc:vR ops n L g d=true:=by rfl) (e:ev L x=some (.int .i64 i):=by rfl) (e':ev L y=some (.int .i64 j):=by rfl):J n X N w0 L D tt CC (wpList P ops Q (⟨some d,.binOp .mul t x y t',ty,pos,af,g⟩::rest)):=⟨λa w F H xq qa qc=>oKx F hc e e' hz (λa' F'=>(kt).h a' w F' H xq qa qc)⟩
theorem xSe {y t t' z} (hz:dv i j=some z) (kt:J n X N w0 ((d,.int .i64 z)::L) D tt CC (wpList P ops Q rest)) (hc:vR ops n L g d=true:=by rfl) (e:ev L x=some (.int .i64 i):=by rfl) (e':ev L y=some (.int .i64 j):=by rfl):J n X N w0 L D tt CC (wpList P ops Q (⟨some d,.binOp .quo t x y t',ty,pos,af,g⟩::rest)):=⟨λa w F H xq qa qc=>oKc F hc e e' hz (λa' F'=>(kt).h a' w F' H xq qa qc)⟩
theorem xOs {y t t' z} (hz:rm i j=some z) (kt:J n X N w0 ((d,.int .i64 z)::L) D tt CC (wpList P ops Q rest)) (hc:vR ops n L g d=true:=by rfl) (e:ev L x=some (.int .i64 i):=by rfl) (e':ev L y=some (.int .i64 j):=by rfl):J n X N w0 L D tt CC (wpList P ops Q (⟨some d,.binOp .rem t x y t',ty,pos,af,g⟩::rest)):=⟨λa w F H xq qa qc=>oMm F hc e e' hz (λa' F'=>(kt).h a' w F' H xq qa qc)⟩
theorem oE {y t t'} {k:Nat} (hi:xM ((k+1:Nat):Int)) (kt:J n X N w0 ((d,.int .i64 ((k+1:Nat):Int))::L) D tt CC (wpList P ops Q rest)) (hc:vR ops n L g d=true:=by rfl) (e:ev L x=some (.int .i64 (k:Int)):=by rfl) (e':ev L y=some (.int .i64 1):=by rfl):J n X N w0 L D tt CC (wpList P ops Q (⟨some d,.binOp .add t x y t',ty,pos,af,g⟩::rest)):=⟨λa w F H xq qa qc=>oKn F hc e e' hi (λa' F'=>(kt).h a' w F' H xq qa qc)⟩
theorem xDv {y t t'} {k:Nat} {lo} (hi:xM (lo+((k+1:Nat):Int))) (kt:J n X N w0 ((d,.int .i64 (lo+((k+1:Nat):Int)))::L) D tt CC (wpList P ops Q rest)) (hc:vR ops n L g d=true:=by rfl) (e:ev L x=some (.int .i64 (lo+(k:Int))):=by rfl) (e':ev L y=some (.int .i64 1):=by rfl):J n X N w0 L D tt CC (wpList P ops Q (⟨some d,.binOp .add t x y t',ty,pos,af,g⟩::rest)):=⟨λa w F H xq qa qc=>oIm F hc e e' hi (λa' F'=>(kt).h a' w F' H xq qa qc)⟩
theorem oGp {y ts} (hh:ev L x=some (.int .i64 i)/\ev L y=some (.int .i64 j)) (kt:J n X N w0 ((d,.int .i64 (if j<i then j else i))::L) D tt CC (wpList P ops Q rest)) (hc:vR ops n L g d=true:=by rfl):J n X N w0 L D tt CC (wpList P ops Q (⟨some d,.call ⟨.builtin .min,#[x,y],ts⟩,ty,pos,af,g⟩::rest)):=⟨λa w F H xq qa qc=>oLx F hc hh.1 hh.2 (λa' F'=>(kt).h a' w F' H xq qa qc)⟩
theorem oGe {y ts} (hh:ev L x=some (.int .i64 i)/\ev L y=some (.int .i64 j)) (kt:J n X N w0 ((d,.int .i64 (if i<j then j else i))::L) D tt CC (wpList P ops Q rest)) (hc:vR ops n L g d=true:=by rfl):J n X N w0 L D tt CC (wpList P ops Q (⟨some d,.call ⟨.builtin .max,#[x,y],ts⟩,ty,pos,af,g⟩::rest)):=⟨λa w F H xq qa qc=>oKw F hc hh.1 hh.2 (λa' F'=>(kt).h a' w F' H xq qa qc)⟩
theorem oH {t kk b o o' off} [hp:Fd P t kk off] (hh:ev L x=some (.pointer (some ⟨b,o,none⟩))/\o+off=o') (kt:J n X N w0 ((d,.pointer (some ⟨b,o',none⟩))::L) D tt CC (wpList P ops Q rest)) (hc:vR ops n L g d=true:=by rfl):J n X N w0 L D tt CC (wpList P ops Q (⟨some d,.fieldAddr t x kk,ty,pos,af,g⟩::rest)):=⟨λa w F H xq qa qc=>xRc hp.h F hc hh.1 hh.2 (λa' F'=>(kt).h a' w F' H xq qa qc)⟩
theorem jL {α:Type} {sz:Nat} {R:ER α} {t:Ty} {v:Vl} {l:List α} {e:Ty} [ht:Ug P t (.slice e)] (h:Bo M w1 (Sl sz R) v l) (kt:xM (l.length:Int)->J n X N w0 ((d,.int .i64 l.length)::L) D tt CC (wpList P ops Q rest)) (hc:vR ops n L g d=true:=by rfl) (he:ev L x=some v:=by rfl):J n X N w0 L D tt CC (wpList P ops Q (⟨some d,.call ⟨.builtin .len,#[x],#[t]⟩,ty,pos,af,g⟩::rest)):=⟨λa w F H xq qa qc=>oL ht.h F hc he h (λa' x0 F'=>(kt x0).h a' w F' H xq qa qc)⟩
theorem jI {α:Type} {sz:Nat} {R:ER α} {t:Ty} {v:Vl} {l:List α} {e:Ty} {y:α} [ht:Ug P t (.slice e)] [qa:Sz P e sz] (h:Bo M w1 (Sl sz R) v l) (qc:ix l i=some y) (kt:∀ p,Bo M w1 (Pt sz R) p y->J n X N w0 ((d,p)::L) D tt CC (wpList P ops Q rest)) (hc:vR ops n L g d=true:=by rfl) (he:ev L x=some v:=by rfl) (hi:ev L iy=some (.int .i64 i):=by rfl):J n X N w0 L D tt CC (wpList P ops Q (⟨some d,.indexAddr t x iy,ty,pos,af,g⟩::rest)):=⟨λa w F H xq qd qe=>oI ht.h qa.h F hc he hi h qc (λa' p x0 F'=>(kt p x0).h a' w F' H xq qd qe)⟩
theorem jF {α β:Type} {sz s':Nat} {R:ER α} {R':ER β} {t:Ty} {kk:Nat} {p:Vl} {y:α} {z:β} {off:Nat} [hp:Fd P t kk off] (h:Bo M w1 (Pt sz R) p y) (hf:∀ f bi,R w1 f y bi->∃ bj,R' w1 (λj=>f (off+j)) z bj/\∀ c∈bj,c∈bi) (kt:∀ p',Bo M w1 (Pt s' R') p' z->J n X N w0 ((d,p')::L) D tt CC (wpList P ops Q rest)) (hc:vR ops n L g d=true:=by rfl) (he:ev L x=some p:=by rfl):J n X N w0 L D tt CC (wpList P ops Q (⟨some d,.fieldAddr t x kk,ty,pos,af,g⟩::rest)):=⟨λa w F H xq qa qc=>oF hp.h F hc he h hf (λa' p' x0 F'=>(kt p' x0).h a' w F' H xq qa qc)⟩
theorem kZ {α β:Type} {sz:Nat} {R:ER α} {R':ER β} {t:Ty} {kk:Nat} {p:Vl} {y:α} {z:β} {off:Nat} [hp:Fd P t kk off] (h:Bo M w1 (Pt sz R) p y) (hf:∀ f bi,R w1 f y bi->∃ bj,R' w1 (λj=>f (off+j)) z bj/\∀ c∈bj,c∈bi) (kt:∀ p',Bo M w1 (Pt 1 R') p' z->J n X N w0 ((d,p')::L) D tt CC (wpList P ops Q rest)) (hc:vR ops n L g d=true:=by rfl) (he:ev L x=some p:=by rfl):J n X N w0 L D tt CC (wpList P ops Q (⟨some d,.fieldAddr t x kk,ty,pos,af,g⟩::rest)):=jF (s':=1) h hf kt hc he
theorem jN {α:Type} {sz:Nat} {R:ER α} {p:Vl} {y:α} (h:Bo M w1 (Pt sz R) p y) (kt:J n X N w0 ((d,p)::L) D tt CC (wpList P ops Q rest)) (hc:vR ops n L g d=true:=by rfl) (e:ev L x=some p:=by rfl):J n X N w0 L D tt CC (wpList P ops Q (⟨some d,.nilCheck x,ty,pos,af,g⟩::rest)):=⟨λa w F H xq qa qc=>oN F hc e h (λa' F'=>(kt).h a' w F' H xq qa qc)⟩
theorem aJ {t p y} [qa:Ag P t false] (h:Bo M w1 (Pt 1 xF) p y) (kt:xM y->J n X N w0 ((d,.int .i64 y)::L) D tt CC (wpList P ops Q rest)) (hc:vR ops n L g d=true:=by rfl) (he:ev L x=some p:=by rfl) (s:∀ {w},Sep X N w0 w D->Sm M w1 w:=by exact Sep.sm):J n X N w0 L D tt CC (wpList P ops Q (⟨some d,.load t x,ty,pos,af,g⟩::rest)):=⟨λa w F H xq qc qd=>olI qa.h F hc he (s H) h (λa' x0 F'=>(kt x0).h a' w F' H xq qc qd)⟩
theorem jlB {t p y} [qa:Ag P t false] (h:Bo M w1 (Pt 1 aF) p y) (kt:J n X N w0 ((d,.bool y)::L) D tt CC (wpList P ops Q rest)) (hc:vR ops n L g d=true:=by rfl) (he:ev L x=some p:=by rfl) (s:∀ {w},Sep X N w0 w D->Sm M w1 w:=by exact Sep.sm):J n X N w0 L D tt CC (wpList P ops Q (⟨some d,.load t x,ty,pos,af,g⟩::rest)):=⟨λa w F H xq qc qd=>olB qa.h F hc he (s H) h (λa' F'=>(kt).h a' w F' H xq qc qd)⟩
theorem aT {α:Type} {sz:Nat} {R:ER α} {t:Ty} {p:Vl} {y:List α} [qa:Ag P t false] (h:Bo M w1 (Pt 1 (zV sz R)) p y) (kt:∀ v,Bo M w1 (Sl sz R) v y->J n X N w0 ((d,v)::L) D tt CC (wpList P ops Q rest)) (hc:vR ops n L g d=true:=by rfl) (he:ev L x=some p:=by rfl) (s:∀ {w},Sep X N w0 w D->Sm M w1 w:=by exact Sep.sm):J n X N w0 L D tt CC (wpList P ops Q (⟨some d,.load t x,ty,pos,af,g⟩::rest)):=⟨λa w F H xq qc qd=>olS qa.h F hc he (s H) h (λa' v x0 F'=>(kt v x0).h a' w F' H xq qc qd)⟩
theorem jlA {α:Type} {sz:Nat} {R:ER α} [hR:FrC sz R] {t:Ty} {p:Vl} {y:α} [qa:Ag P t true] [qc:Sz P t sz] (h:Bo M w1 (Pt sz R) p y) (kt:∀ v,Bo M w1 (qR sz R) v y->J n X N w0 ((d,v)::L) D tt CC (wpList P ops Q rest)) (hc:vR ops n L g d=true:=by rfl) (he:ev L x=some p:=by rfl) (s:∀ {w},Sep X N w0 w D->Sm M w1 w:=by exact Sep.sm):J n X N w0 L D tt CC (wpList P ops Q (⟨some d,.load t x,ty,pos,af,g⟩::rest)):=⟨λa w F H xq qd qe=>olA qa.h qc.h F hc he (s H) h (λa' v x0 F'=>(kt v x0).h a' w F' H xq qd qe)⟩
theorem jC {α:Type} {sz:Nat} {R:ER α} [hR:FrC sz R] {t e:Ty} {v:Vl} {l r:List α} {lo hi:Option Operand} [ht:Ug P t (.slice e)] [qa:Sz P e sz] (qc:match lo with | some y=>ev L y=some (.int .i64 i) | none=>i=0) (qd:match hi with | some y=>ev L y=some (.int .i64 j) | none=>j=l.length) (h:Bo M w1 (Sl sz R) v l) (hs:sl l i j=some r) (kt:∀ v',Bo M w1 (Sl sz R) v' r->J n X N w0 ((d,v')::L) D tt CC (wpList P ops Q rest)) (hc:vR ops n L g d=true:=by rfl) (he:ev L x=some v:=by rfl):J n X N w0 L D tt CC (wpList P ops Q (⟨some d,.slice t x lo hi none,ty,pos,af,g⟩::rest)):=⟨λa w F H xq qe qf=>oC ht.h qa.h F hc he qc qd h hs (λa' v' x0 F'=>(kt v' x0).h a' w F' H xq qe qf)⟩
theorem gU {α:Type} {sz:Nat} {R:ER α} {t:Ty} {v:Vl} {l:List α} {e:Ty} {y:α} [ht:Ug P t (.slice e)] [qa:Sz P e sz] (h:Bo M w1 (Sl sz R) v l) (qc:ix l i=some y) (kt:∀ p,Bo M w1 (Pt sz R) p y->J n X N w0 ((d,p)::L) D tt CC (Gq P ops X N w0 D K rest)) (hc:vR ops n L g d=true:=by rfl) (he:ev L x=some v:=by rfl) (hi:ev L iy=some (.int .i64 i):=by rfl):J n X N w0 L D tt CC (Gq P ops X N w0 D K (⟨some d,.indexAddr t x iy,ty,pos,af,g⟩::rest)):=⟨λa w F H xq qd qe=>qI ht.h qa.h F hc he hi h qc (λa' p x0 F'=>(kt p x0).h a' w F' H xq qd qe)⟩
theorem jqF {α β:Type} {sz s':Nat} {R:ER α} {R':ER β} {t:Ty} {kk:Nat} {p:Vl} {y:α} {z:β} {off:Nat} [hp:Fd P t kk off] (h:Bo M w1 (Pt sz R) p y) (hf:∀ f bi,R w1 f y bi->∃ bj,R' w1 (λj=>f (off+j)) z bj/\∀ c∈bj,c∈bi) (kt:∀ p',Bo M w1 (Pt s' R') p' z->J n X N w0 ((d,p')::L) D tt CC (Gq P ops X N w0 D K rest)) (hc:vR ops n L g d=true:=by rfl) (he:ev L x=some p:=by rfl):J n X N w0 L D tt CC (Gq P ops X N w0 D K (⟨some d,.fieldAddr t x kk,ty,pos,af,g⟩::rest)):=⟨λa w F H xq qa qc=>qF hp.h F hc he h hf (λa' p' x0 F'=>(kt p' x0).h a' w F' H xq qa qc)⟩
theorem cA {α β:Type} {sz:Nat} {R:ER α} {R':ER β} {t:Ty} {kk:Nat} {p:Vl} {y:α} {z:β} {off:Nat} [hp:Fd P t kk off] (h:Bo M w1 (Pt sz R) p y) (hf:∀ f bi,R w1 f y bi->∃ bj,R' w1 (λj=>f (off+j)) z bj/\∀ c∈bj,c∈bi) (kt:∀ p',Bo M w1 (Pt 1 R') p' z->J n X N w0 ((d,p')::L) D tt CC (Gq P ops X N w0 D K rest)) (hc:vR ops n L g d=true:=by rfl) (he:ev L x=some p:=by rfl):J n X N w0 L D tt CC (Gq P ops X N w0 D K (⟨some d,.fieldAddr t x kk,ty,pos,af,g⟩::rest)):=jqF (s':=1) h hf kt hc he
theorem jqN {α:Type} {sz:Nat} {R:ER α} {p:Vl} {y:α} (h:Bo M w1 (Pt sz R) p y) (kt:J n X N w0 ((d,p)::L) D tt CC (Gq P ops X N w0 D K rest)) (hc:vR ops n L g d=true:=by rfl) (e:ev L x=some p:=by rfl):J n X N w0 L D tt CC (Gq P ops X N w0 D K (⟨some d,.nilCheck x,ty,pos,af,g⟩::rest)):=⟨λa w F H xq qa qc=>qN F hc e h (λa' F'=>(kt).h a' w F' H xq qa qc)⟩
theorem jqL {α:Type} {sz:Nat} {R:ER α} {t:Ty} {v:Vl} {l:List α} {e:Ty} [ht:Ug P t (.slice e)] (h:Bo M w1 (Sl sz R) v l) (kt:xM (l.length:Int)->J n X N w0 ((d,.int .i64 l.length)::L) D tt CC (Gq P ops X N w0 D K rest)) (hc:vR ops n L g d=true:=by rfl) (he:ev L x=some v:=by rfl):J n X N w0 L D tt CC (Gq P ops X N w0 D K (⟨some d,.call ⟨.builtin .len,#[x],#[t]⟩,ty,pos,af,g⟩::rest)):=⟨λa w F H xq qa qc=>qL ht.h F hc he h (λa' x0 F'=>(kt x0).h a' w F' H xq qa qc)⟩
theorem kN {t p y} [qa:Ag P t false] (h:Bo M w1 (Pt 1 xF) p y) (kt:xM y->J n X N w0 ((d,.int .i64 y)::L) D tt CC (Gq P ops X N w0 D K rest)) (hc:vR ops n L g d=true:=by rfl) (he:ev L x=some p:=by rfl) (s:∀ {w},Sep X N w0 w D->∀ w',Below w.heap.size w w'->Sm M w1 w':=by exact Sep.q):J n X N w0 L D tt CC (Gq P ops X N w0 D K (⟨some d,.load t x,ty,pos,af,g⟩::rest)):=⟨λa w F H xq qc qd=>qlI qa.h F hc he (s H) h (λa' x0 F'=>(kt x0).h a' w F' H xq qc qd)⟩
theorem oLu {t p y} [qa:Ag P t false] (h:Bo M w1 (Pt 1 aF) p y) (kt:J n X N w0 ((d,.bool y)::L) D tt CC (Gq P ops X N w0 D K rest)) (hc:vR ops n L g d=true:=by rfl) (he:ev L x=some p:=by rfl) (s:∀ {w},Sep X N w0 w D->∀ w',Below w.heap.size w w'->Sm M w1 w':=by exact Sep.q):J n X N w0 L D tt CC (Gq P ops X N w0 D K (⟨some d,.load t x,ty,pos,af,g⟩::rest)):=⟨λa w F H xq qc qd=>qlB qa.h F hc he (s H) h (λa' F'=>(kt).h a' w F' H xq qc qd)⟩
theorem eN {α:Type} {sz:Nat} {R:ER α} {t:Ty} {p:Vl} {y:List α} [qa:Ag P t false] (h:Bo M w1 (Pt 1 (zV sz R)) p y) (kt:∀ v,Bo M w1 (Sl sz R) v y->J n X N w0 ((d,v)::L) D tt CC (Gq P ops X N w0 D K rest)) (hc:vR ops n L g d=true:=by rfl) (he:ev L x=some p:=by rfl) (s:∀ {w},Sep X N w0 w D->∀ w',Below w.heap.size w w'->Sm M w1 w':=by exact Sep.q):J n X N w0 L D tt CC (Gq P ops X N w0 D K (⟨some d,.load t x,ty,pos,af,g⟩::rest)):=⟨λa w F H xq qc qd=>qlS qa.h F hc he (s H) h (λa' v x0 F'=>(kt v x0).h a' w F' H xq qc qd)⟩
theorem xBk {α:Type} {sz:Nat} {R:ER α} [hR:FrC sz R] {t:Ty} {p:Vl} {y:α} [qa:Ag P t true] [qc:Sz P t sz] (h:Bo M w1 (Pt sz R) p y) (kt:∀ v,Bo M w1 (qR sz R) v y->J n X N w0 ((d,v)::L) D tt CC (Gq P ops X N w0 D K rest)) (hc:vR ops n L g d=true:=by rfl) (he:ev L x=some p:=by rfl) (s:∀ {w},Sep X N w0 w D->∀ w',Below w.heap.size w w'->Sm M w1 w':=by exact Sep.q):J n X N w0 L D tt CC (Gq P ops X N w0 D K (⟨some d,.load t x,ty,pos,af,g⟩::rest)):=⟨λa w F H xq qd qe=>qlA qa.h qc.h F hc he (s H) h (λa' v x0 F'=>(kt v x0).h a' w F' H xq qd qe)⟩
theorem nM {α:Type} {sz:Nat} {R:ER α} {t:Ty} {v:Vl} {l:List α} {e:Ty} {y:α} [ht:Ug P t (.slice e)] [qa:Sz P e sz] (ii:Nat) (qc:ops[ii]?=some ⟨some d,.indexAddr t x iy,ty,pos,af,g⟩) (h:Bo M w1 (Sl sz R) v l) (qd:ix l i=some y) (kt:∀ p,Bo M w1 (Pt sz R) p y->J n X N w0 ((d,p)::L) D tt CC (zE P ops K (Sm Mv) f (ls.setIfInBounds ii true))) (hc:vR ops n L g d=true:=by rfl) (he:ev L x=some v:=by rfl) (hi:ev L iy=some (.int .i64 i):=by rfl) (hb:bqc ops ls ii true=true:=by kernel_rfl):J n X N w0 L D tt CC (zE P ops K (Sm Mv) (f+1) ls):=⟨λa w F H xq qe qf=>bq hb qc (vI ht.h qa.h F hc he hi h qd (λa' p x0 F'=>(kt p x0).h a' w F' H xq qe qf))⟩
theorem jvF {α β:Type} {sz s':Nat} {R:ER α} {R':ER β} {t:Ty} {kk:Nat} {p:Vl} {y:α} {z:β} {off:Nat} [hp:Fd P t kk off] (ii:Nat) (qa:ops[ii]?=some ⟨some d,.fieldAddr t x kk,ty,pos,af,g⟩) (h:Bo M w1 (Pt sz R) p y) (hf:∀ f bi,R w1 f y bi->∃ bj,R' w1 (λj=>f (off+j)) z bj/\∀ c∈bj,c∈bi) (kt:∀ p',Bo M w1 (Pt s' R') p' z->J n X N w0 ((d,p')::L) D tt CC (zE P ops K (Sm Mv) f (ls.setIfInBounds ii true))) (hc:vR ops n L g d=true:=by rfl) (he:ev L x=some p:=by rfl) (hb:bqc ops ls ii true=true:=by kernel_rfl):J n X N w0 L D tt CC (zE P ops K (Sm Mv) (f+1) ls):=⟨λa w F H xq qc qd=>bq hb qa (vF hp.h F hc he h hf (λa' p' x0 F'=>(kt p' x0).h a' w F' H xq qc qd))⟩
theorem gR {α β:Type} {sz:Nat} {R:ER α} {R':ER β} {t:Ty} {kk:Nat} {p:Vl} {y:α} {z:β} {off:Nat} [hp:Fd P t kk off] (ii:Nat) (qa:ops[ii]?=some ⟨some d,.fieldAddr t x kk,ty,pos,af,g⟩) (h:Bo M w1 (Pt sz R) p y) (hf:∀ f bi,R w1 f y bi->∃ bj,R' w1 (λj=>f (off+j)) z bj/\∀ c∈bj,c∈bi) (kt:∀ p',Bo M w1 (Pt 1 R') p' z->J n X N w0 ((d,p')::L) D tt CC (zE P ops K (Sm Mv) f (ls.setIfInBounds ii true))) (hc:vR ops n L g d=true:=by rfl) (he:ev L x=some p:=by rfl) (hb:bqc ops ls ii true=true:=by kernel_rfl):J n X N w0 L D tt CC (zE P ops K (Sm Mv) (f+1) ls):=jvF (s':=1) ii qa h hf kt hc he hb
theorem jvN {α:Type} {sz:Nat} {R:ER α} {p:Vl} {y:α} (ii:Nat) (qa:ops[ii]?=some ⟨some d,.nilCheck x,ty,pos,af,g⟩) (h:Bo M w1 (Pt sz R) p y) (kt:J n X N w0 ((d,p)::L) D tt CC (zE P ops K (Sm Mv) f (ls.setIfInBounds ii true))) (hc:vR ops n L g d=true:=by rfl) (e:ev L x=some p:=by rfl) (hb:bqc ops ls ii true=true:=by kernel_rfl):J n X N w0 L D tt CC (zE P ops K (Sm Mv) (f+1) ls):=⟨λa w F H xq qc qd=>bq hb qa (vN F hc e h (λa' F'=>(kt).h a' w F' H xq qc qd))⟩
theorem jvL {α:Type} {sz:Nat} {R:ER α} {t:Ty} {v:Vl} {l:List α} {e:Ty} [ht:Ug P t (.slice e)] (ii:Nat) (qa:ops[ii]?=some ⟨some d,.call ⟨.builtin .len,#[x],#[t]⟩,ty,pos,af,g⟩) (h:Bo M w1 (Sl sz R) v l) (kt:xM (l.length:Int)->J n X N w0 ((d,.int .i64 l.length)::L) D tt CC (zE P ops K (Sm Mv) f (ls.setIfInBounds ii true))) (hc:vR ops n L g d=true:=by rfl) (he:ev L x=some v:=by rfl) (hb:bqc ops ls ii true=true:=by kernel_rfl):J n X N w0 L D tt CC (zE P ops K (Sm Mv) (f+1) ls):=⟨λa w F H xq qc qd=>bq hb qa (vL ht.h F hc he h (λa' x0 F'=>(kt x0).h a' w F' H xq qc qd))⟩
theorem aY {t p y} [qa:Ag P t false] (ii:Nat) (qc:ops[ii]?=some ⟨some d,.load t x,ty,pos,af,g⟩) (h:Bo M w1 (Pt 1 xF) p y) (kt:xM y->J n X N w0 ((d,.int .i64 y)::L) D tt CC (zE P ops K (Sm Mv) f (ls.setIfInBounds ii true))) (hc:vR ops n L g d=true:=by rfl) (he:ev L x=some p:=by rfl) (s:∀ {w},Sep X N w0 w D->∀ w',Sm Mv w w'->Sm M w1 w':=by exact Sep.v) (hb:bqc ops ls ii true=true:=by kernel_rfl):J n X N w0 L D tt CC (zE P ops K (Sm Mv) (f+1) ls):=⟨λa w F H xq qd qe=>bq hb qc (vlI qa.h F hc he (s H) h (λa' x0 F'=>(kt x0).h a' w F' H xq qd qe))⟩
theorem jvlB {t p y} [qa:Ag P t false] (ii:Nat) (qc:ops[ii]?=some ⟨some d,.load t x,ty,pos,af,g⟩) (h:Bo M w1 (Pt 1 aF) p y) (kt:J n X N w0 ((d,.bool y)::L) D tt CC (zE P ops K (Sm Mv) f (ls.setIfInBounds ii true))) (hc:vR ops n L g d=true:=by rfl) (he:ev L x=some p:=by rfl) (s:∀ {w},Sep X N w0 w D->∀ w',Sm Mv w w'->Sm M w1 w':=by exact Sep.v) (hb:bqc ops ls ii true=true:=by kernel_rfl):J n X N w0 L D tt CC (zE P ops K (Sm Mv) (f+1) ls):=⟨λa w F H xq qd qe=>bq hb qc (vlB qa.h F hc he (s H) h (λa' F'=>(kt).h a' w F' H xq qd qe))⟩
theorem rB {α:Type} {sz:Nat} {R:ER α} {t:Ty} {p:Vl} {y:List α} [qa:Ag P t false] (ii:Nat) (qc:ops[ii]?=some ⟨some d,.load t x,ty,pos,af,g⟩) (h:Bo M w1 (Pt 1 (zV sz R)) p y) (kt:∀ v,Bo M w1 (Sl sz R) v y->J n X N w0 ((d,v)::L) D tt CC (zE P ops K (Sm Mv) f (ls.setIfInBounds ii true))) (hc:vR ops n L g d=true:=by rfl) (he:ev L x=some p:=by rfl) (s:∀ {w},Sep X N w0 w D->∀ w',Sm Mv w w'->Sm M w1 w':=by exact Sep.v) (hb:bqc ops ls ii true=true:=by kernel_rfl):J n X N w0 L D tt CC (zE P ops K (Sm Mv) (f+1) ls):=⟨λa w F H xq qd qe=>bq hb qc (vlS qa.h F hc he (s H) h (λa' v x0 F'=>(kt v x0).h a' w F' H xq qd qe))⟩
theorem jvlP {α:Type} {sz:Nat} {R:ER α} {t:Ty} {p:Vl} {y:α} [qa:Ag P t false] (ii:Nat) (qc:ops[ii]?=some ⟨some d,.load t x,ty,pos,af,g⟩) (h:Bo M w1 (Pt 1 (RP sz R)) p y) (kt:∀ v,Bo M w1 (Pt sz R) v y->J n X N w0 ((d,v)::L) D tt CC (zE P ops K (Sm Mv) f (ls.setIfInBounds ii true))) (hc:vR ops n L g d=true:=by rfl) (he:ev L x=some p:=by rfl) (s:∀ {w},Sep X N w0 w D->∀ w',Sm Mv w w'->Sm M w1 w':=by exact Sep.v) (hb:bqc ops ls ii true=true:=by kernel_rfl):J n X N w0 L D tt CC (zE P ops K (Sm Mv) (f+1) ls):=⟨λa w F H xq qd qe=>bq hb qc (vlP qa.h F hc he (s H) h (λa' v x0 F'=>(kt v x0).h a' w F' H xq qd qe))⟩
theorem xFu {α:Type} {sz:Nat} {R:ER α} [hR:FrC sz R] {t:Ty} {p:Vl} {y:α} [qa:Ag P t true] [qc:Sz P t sz] (ii:Nat) (qd:ops[ii]?=some ⟨some d,.load t x,ty,pos,af,g⟩) (h:Bo M w1 (Pt sz R) p y) (kt:∀ v,Bo M w1 (qR sz R) v y->J n X N w0 ((d,v)::L) D tt CC (zE P ops K (Sm Mv) f (ls.setIfInBounds ii true))) (hc:vR ops n L g d=true:=by rfl) (he:ev L x=some p:=by rfl) (s:∀ {w},Sep X N w0 w D->∀ w',Sm Mv w w'->Sm M w1 w':=by exact Sep.v) (hb:bqc ops ls ii true=true:=by kernel_rfl):J n X N w0 L D tt CC (zE P ops K (Sm Mv) (f+1) ls):=⟨λa w F H xq qe qf=>bq hb qd (vlA qa.h qc.h F hc he (s H) h (λa' v x0 F'=>(kt v x0).h a' w F' H xq qe qf))⟩
theorem jR0 {α sz} (R:ER α) [hR:FrC sz R] {t e} [ht:Ug P t (.slice e)] [qa:Sz P e sz] (kt:∀ v,J n X N w0 ((d,v)::L) (rl sz R e v []::D) tt CC (wpList P ops Q rest)) (hc:vR ops n L g d=true:=by rfl):J n X N w0 L D tt CC (wpList P ops Q (⟨some d,.buildSlice t 0 #[],ty,pos,af,g⟩::rest)):=⟨λa w F H xq qc qd=>oR0 ht.h qa.h F hc H (λa' w' v H' F'=>(kt v).h a' w' F' H' xq qc qd)⟩
theorem iX {α:Type} {sz:Nat} {R:ER α} [hR:FrC sz R] {t e:Ty} {z:Vl} {v:Vl} {y:α} [ht:Ug P t (.slice e)] [qa:Sz P e sz] [hz:Zv P e z] (h:∀ {w},Sep X N w0 w D->Eo N0 w sz R v y) (kt:∀ v',J n X N w0 ((d,v')::L) (rl sz R e v' [y]::D) tt CC (wpList P ops Q rest)) (qc:z.cells.size=sz:=by rfl) (hb:(Nat.blt 0 sz && Nat.ble sz 1000)=true:=by rfl) (hc:vR ops n L g d=true:=by rfl) (hx:ev L x=some v:=by rfl):J n X N w0 L D tt CC (wpList P ops Q (⟨some d,.buildSlice t 1 #[(0,x)],ty,pos,af,g⟩::rest)):=⟨λa w F H xq qd qe=>oR1z ht.h qa.h hz.h qc hb F hc hx H (h H) (λa' w' v' H' F'=>(kt v').h a' w' F' H' xq qd qe)⟩
theorem jR1 {α:Type} {sz:Nat} {R:ER α} [hR:FrC sz R] {t e:Ty} {z:Vl} {v:Vl} {y:α} [ht:Ug P t (.slice e)] [qa:Sz P e sz] [hz:Zv P e z] (h1:∀ c,N1 c->N c) (h:∀ {w},Sep X N w0 w D->Eo N1 w sz R v y) (kt:∀ v',J n X N w0 ((d,v')::L) (rw N1 sz R e v' [y]::D) tt CC (wpList P ops Q rest)) (qc:z.cells.size=sz:=by rfl) (hb:(Nat.blt 0 sz && Nat.ble sz 1000)=true:=by rfl) (hc:vR ops n L g d=true:=by rfl) (hx:ev L x=some v:=by rfl):J n X N w0 L D tt CC (wpList P ops Q (⟨some d,.buildSlice t 1 #[(0,x)],ty,pos,af,g⟩::rest)):=⟨λa w F H xq qd qe=>oR1 ht.h qa.h hz.h qc hb F hc hx H h1 (h H) (λa' w' v' H' F'=>(kt v').h a' w' F' H' xq qd qe)⟩
theorem jR1c {α:Type} {sz:Nat} {R:ER α} [hR:FrC sz R] {t e:Ty} {z:Vl} {v:Vl} {y:α} [ht:Ug P t (.slice e)] [qa:Sz P e sz] [hz:Zv P e z] (h1:∀ c,N1 c->N c) (hA:∀ c,A.N c->N1 c) (h:∀ {w},Sep X N w0 w (A::D)->∀ {N':Nat->Prop},(∀ c,N1 c->N' c)->Rdg N' w A->Eo N' w sz R v y) (kt:∀ v',J n X N w0 ((d,v')::L) (rw N1 sz R e v' [y]::D) tt CC (wpList P ops Q rest)) (qc:z.cells.size=sz:=by rfl) (hb:(Nat.blt 0 sz && Nat.ble sz 1000)=true:=by rfl) (hc:vR ops n L g d=true:=by rfl) (hx:ev L x=some v:=by rfl):J n X N w0 L (A::D) tt CC (wpList P ops Q (⟨some d,.buildSlice t 1 #[(0,x)],ty,pos,af,g⟩::rest)):=⟨λa w F H xq qd qe=>oR1c ht.h qa.h hz.h qc hb F hc hx H h1 hA (h H) (λa' w' v' H' F'=>(kt v').h a' w' F' H' xq qd qe)⟩
theorem tD {α:Type} {sz:Nat} {R:ER α} [hR:FrC sz R] {V:VR α} [hV:VF V] {t e:Ty} {z:Vl} {v:Vl} {y:α} [ht:Ug P t (.slice e)] [qa:Sz P e sz] [hz:Zv P e z] (h:∀ {w},Sep X N w0 w (ow (V:=V) v y::D)->∀ {bs},Rd V w v y bs->El sz R w v y bs) (kt:∀ v',J n X N w0 ((d,v')::L) (rl sz R e v' [y]::D) tt CC (wpList P ops Q rest)) (qc:z.cells.size=sz:=by rfl) (hb:(Nat.blt 0 sz && Nat.ble sz 1000)=true:=by rfl) (hc:vR ops n L g d=true:=by rfl) (hx:ev L x=some v:=by rfl):J n X N w0 L (ow (V:=V) v y::D) tt CC (wpList P ops Q (⟨some d,.buildSlice t 1 #[(0,x)],ty,pos,af,g⟩::rest)):=⟨λa w F H xq qd qe=>oR1L ht.h qa.h hz.h qc hb F hc hx H (h H) (λa' w' v' H' F'=>(kt v').h a' w' F' H' xq qd qe)⟩
theorem jP {α:Type} {sz:Nat} {R:ER α} [hR:FrC sz R] {y:Operand} {t E E':Ty} {z:Vl} {bytes:Nat} {v u:Vl} {l m r:List α} [ht:Ug P t (.slice E)] [qa:If P E z sz bytes] (qc:ap l m=some r) (kt:∀ v',J n X N w0 ((d,v')::L) (rw N1 sz R E v' r::D) tt CC (wpList P ops Q rest)) (qd:z.cells.size=sz:=by rfl) (hb:(Nat.blt 0 sz && (Nat.ble bytes 1024 && Nat.blt 0 bytes))=true:=by rfl) (hc:vR ops n L g d=true:=by rfl) (hx:ev L x=some v:=by rfl) (hy:ev L y=some u:=by rfl):J n X N w0 L (rw N1 sz R E v l::rw N1 sz R E' u m::D) tt CC (wpList P ops Q (⟨some d,.call ⟨.builtin .append,#[x,y],#[t,t]⟩,ty,pos,af,g⟩::rest)):=⟨λa w F H xq qe qf=>oP ht.h qa.h qd hb F hc hx hy H qc (λa' w' v' H' F'=>(kt v').h a' w' F' H' xq qe qf)⟩
theorem jPL {α:Type} {sz:Nat} {R:ER α} [hR:FrC sz R] {y:Operand} {t E E':Ty} {z:Vl} {bytes:Nat} {v u:Vl} {l m r:List α} [ht:Ug P t (.slice E)] [qa:If P E z sz bytes] (qc:ap l m=some r) (kt:∀ v',J n X N w0 ((d,v')::L) (rl sz R E v' r::D) tt CC (wpList P ops Q rest)) (qd:z.cells.size=sz:=by rfl) (hb:(Nat.blt 0 sz && (Nat.ble bytes 1024 && Nat.blt 0 bytes))=true:=by rfl) (hc:vR ops n L g d=true:=by rfl) (hx:ev L x=some v:=by rfl) (hy:ev L y=some u:=by rfl):J n X N w0 L (rl sz R E v l::rl sz R E' u m::D) tt CC (wpList P ops Q (⟨some d,.call ⟨.builtin .append,#[x,y],#[t,t]⟩,ty,pos,af,g⟩::rest)):=⟨λa w F H xq qe qf=>oPL ht.h qa.h qd hb F hc hx hy H qc (λa' w' v' H' F'=>(kt v').h a' w' F' H' xq qe qf)⟩
theorem jPf {α:Type} {sz:Nat} {R:ER α} [hR:FrC sz R] [hf:Flat R] {y:Operand} {t E:Ty} {z:Vl} {bytes:Nat} {v u:Vl} {l m r:List α} [ht:Ug P t (.slice E)] [qa:If P E z sz bytes] (hs:∀ {w},Sep X N w0 w (rw N1 sz R E v l::D)->Bo (All w) w (Sl sz R) u m) (qc:ap l m=some r) (kt:∀ v',J n X N w0 ((d,v')::L) (rw N1 sz R E v' r::D) tt CC (wpList P ops Q rest)) (qd:z.cells.size=sz:=by rfl) (hb:(Nat.blt 0 sz && (Nat.ble bytes 1024 && Nat.blt 0 bytes))=true:=by rfl) (hc:vR ops n L g d=true:=by rfl) (hx:ev L x=some v:=by rfl) (hy:ev L y=some u:=by rfl):J n X N w0 L (rw N1 sz R E v l::D) tt CC (wpList P ops Q (⟨some d,.call ⟨.builtin .append,#[x,y],#[t,t]⟩,ty,pos,af,g⟩::rest)):=⟨λa w F H xq qe qf=>oPf ht.h qa.h qd hb F hc hx hy H (hs H) qc (λa' w' v' H' F'=>(kt v').h a' w' F' H' xq qe qf)⟩
theorem jT {α:Type} {sz:Nat} {R:ER α} [hR:FrC sz R] {hi:Operand} {t E:Ty} {v:Vl} {l r:List α} [ht:Ug P t (.slice E)] [qa:Sz P E sz] (hs:sl l 0 j=some r) (kt:∀ v',J n X N w0 ((d,v')::L) (rw N1 sz R E v' r::D) tt CC (wpList P ops Q rest)) (hc:vR ops n L g d=true:=by rfl) (hx:ev L x=some v:=by rfl) (qc:ev L hi=some (.int .i64 j):=by rfl):J n X N w0 L (rw N1 sz R E v l::D) tt CC (wpList P ops Q (⟨some d,.slice t x none (some hi) none,ty,pos,af,g⟩::rest)):=⟨λa w F H xq qd qe=>oT ht.h qa.h F hc hx qc H hs (λa' v' H' F'=>(kt v').h a' w F' H' xq qd qe)⟩
theorem jW {y t b o v cs cs' T} [qa:Sz P t 1] (hh:ev L x=some (.pointer (some ⟨b,o,none⟩))/\ev L y=some v/\cs.set o v=cs') (kt:J n X N w0 L (bx b cs' T::D) tt CC (wpList P ops Q rest)) (hc:gok ops L g=true:=by rfl) (hv:∀ {w},Sep X N w0 w (bx b cs T::D)->v.oneCell'=true:=by intros;rfl) (ho:Nat.blt o cs.length=true:=by rfl):J n X N w0 L (bx b cs T::D) tt CC (wpList P ops Q (⟨none,.store t x y,ty,pos,af,g⟩::rest)):=⟨λa w F H xq qc qd=>oW qa.h F hc hh.1 hh.2.1 H (hv H) ho hh.2.2 (λw' H'=>(kt).h a w' F H' xq qc qd)⟩
theorem kG {y t b o vs cs cs' T szv} [qa:Sz P t szv] (hh:ev L x=some (.pointer (some ⟨b,o,none⟩))/\ev L y=some (.agg vs.toArray)/\cs.take o++vs++cs.drop (o+vs.length)=cs') (kt:J n X N w0 L (bx b cs' T::D) tt CC (wpList P ops Q rest)) (qc:vs.length=szv:=by rfl) (hc:gok ops L g=true:=by rfl) (hv:∀ {w},Sep X N w0 w (bx b cs T::D)->∀ v∈vs,v.oneCell'=true:=by intro _ _;repeat (first | exact on | refine oc rfl ?_)) (ho:Nat.ble (o+vs.length) cs.length=true:=by rfl):J n X N w0 L (bx b cs T::D) tt CC (wpList P ops Q (⟨none,.store t x y,ty,pos,af,g⟩::rest)):=⟨λa w F H xq qd qe=>oWA (λw=>qc ▸ qa.h w) F hc hh.1 hh.2.1 H (hv H) ho hh.2.2 (λw' H'=>(kt).h a w' F H' xq qd qe)⟩
theorem jS {α:Type} {R:ER α} [hR:FrC 1 R] {y:Operand} {t E:Ty} {v p u:Vl} {l l':List α} {i:Nat} {z:α} [qa:Sz P t 1] (hp:RPt v 1 i p) (hi:i<l.length) (hz:∀ {w},Sep X N w0 w (rw N1 1 R E v l::D)->Eo N1 w 1 R u z) (hl:l.set i z=l') (kt:J n X N w0 L (rw N1 1 R E v l'::D) tt CC (wpList P ops Q rest)) (hc:gok ops L g=true:=by rfl) (hx:ev L x=some p:=by rfl) (hy:ev L y=some u:=by rfl) (hone:∀ {w},Sep X N w0 w (rw N1 1 R E v l::D)->u.oneCell'=true:=by intros;rfl):J n X N w0 L (rw N1 1 R E v l::D) tt CC (wpList P ops Q (⟨none,.store t x y,ty,pos,af,g⟩::rest)):=⟨λa w F H xq qc qd=>oS qa.h F hc hx hy H hp hi (hz H) (hone H) hl (λw' H'=>(kt).h a w' F H' xq qc qd)⟩
theorem jSc {α:Type} {R:ER α} [hR:FrC 1 R] {y:Operand} {t E:Ty} {v p u:Vl} {l l':List α} {i:Nat} {z:α} [qa:Sz P t 1] (hp:RPt v 1 i p) (hi:i<l.length) (hA:∀ c,A.N c->N1 c) (hz:∀ {w},Sep X N w0 w (rw N1 1 R E v l::A::D)->∀ {N':Nat->Prop},(∀ c,N1 c->N' c)->Rdg N' w A->Eo N' w 1 R u z) (hl:l.set i z=l') (kt:J n X N w0 L (rw N1 1 R E v l'::D) tt CC (wpList P ops Q rest)) (hc:gok ops L g=true:=by rfl) (hx:ev L x=some p:=by rfl) (hy:ev L y=some u:=by rfl) (hone:∀ {w},Sep X N w0 w (rw N1 1 R E v l::A::D)->u.oneCell'=true:=by intros;rfl):J n X N w0 L (rw N1 1 R E v l::A::D) tt CC (wpList P ops Q (⟨none,.store t x y,ty,pos,af,g⟩::rest)):=⟨λa w F H xq qc qd=>oSc qa.h F hc hx hy H hp hi hA (hz H) (hone H) hl (λw' H'=>(kt).h a w' F H' xq qc qd)⟩
theorem jSo {y t v p l l' i z} [qa:Sz P t 1] (hp:OPt v i p) (hi:i<l.length) (hz:xM z) (hl:l.set i z=l') (kt:J n X N w0 L (ow (V:=Sl 1 xF) v l'::D) tt CC (wpList P ops Q rest)) (hc:gok ops L g=true:=by rfl) (hx:ev L x=some p:=by rfl) (hy:ev L y=some (.int .i64 z):=by rfl):J n X N w0 L (ow (V:=Sl 1 xF) v l::D) tt CC (wpList P ops Q (⟨none,.store t x y,ty,pos,af,g⟩::rest)):=⟨λa w F H xq qc qd=>oSo qa.h F hc hx hy H hp hi hz hl (λw' H'=>(kt).h a w' F H' xq qc qd)⟩
theorem jSl {α:Type} {sz:Nat} {R:ER α} [hR:FrC sz R] {y:Operand} {t E E2:Ty} {v p u:Vl} {xss l':List (List α)} {i:Nat} {l:List α} [qa:Sz P t 1] (hp:RPt v 1 i p) (hi:i<xss.length) (hl:xss.set i l=l') (kt:J n X N w0 L (rl 1 (zV sz R) E v l'::D) tt CC (wpList P ops Q rest)) (hc:gok ops L g=true:=by rfl) (hx:ev L x=some p:=by rfl) (hy:ev L y=some u:=by rfl):J n X N w0 L (rl 1 (zV sz R) E v xss::rl sz R E2 u l::D) tt CC (wpList P ops Q (⟨none,.store t x y,ty,pos,af,g⟩::rest)):=⟨λa w F H xq qc qd=>oSl qa.h F hc hx hy H hp hi hl (λw' H'=>(kt).h a w' F H' xq qc qd)⟩
theorem jSX {α:Type} {sz:Nat} {R:ER α} [hR:FrC sz R] {y:Operand} {t E:Ty} {v p q:Vl} {vs:List Vl} {l l':List α} {i f:Nat} {u z:α} (hq:∀ {w},Sep X N w0 w (rw N1 sz R E v l::A::D)->Stv P t q vs) (hp:RPO v sz i f p) (hi:l[i]?=some u) (hA:∀ c,A.N c->N1 c) (hz:∀ {w},Sep X N w0 w (rw N1 sz R E v l::A::D)->∀ {N':Nat->Prop},(∀ c,N1 c->N' c)->Rdg N' w A->Tn N' w sz R f vs u z) (hl:l.set i z=l') (kt:J n X N w0 L (rw N1 sz R E v l'::D) tt CC (wpList P ops Q rest)) (hc:gok ops L g=true:=by rfl) (hx:ev L x=some p:=by rfl) (hy:ev L y=some q:=by rfl):J n X N w0 L (rw N1 sz R E v l::A::D) tt CC (wpList P ops Q (⟨none,.store t x y,ty,pos,af,g⟩::rest)):=⟨λa w F H xq qa qc=>oSX F hc hx hy (hq H) H hp hi hA (hz H) hl (λw' H'=>(kt).h a w' F H' xq qa qc)⟩
theorem oCk {Nz:Nat->Prop} {α:Type} {sz:Nat} {R:ER α} {t:Ty} {p:Vl} {y:List α} [qa:Ag P t false] (h:Pz M Nz w1 1 (zV sz R) p y) (kt:∀ v,Bo Nz w1 (Sl sz R) v y->J n X N w0 ((d,v)::L) D tt CC (wpList P ops Q rest)) (hc:vR ops n L g d=true:=by rfl) (he:ev L x=some p:=by rfl) (s:∀ {w},Sep X N w0 w D->Sm M w1 w:=by exact Sep.sm):J n X N w0 L D tt CC (wpList P ops Q (⟨some d,.load t x,ty,pos,af,g⟩::rest)):=⟨λa w F H xq qc qd=>olSz qa.h F hc he (s H) h (λa' v x0 F'=>(kt v x0).h a' w F' H xq qc qd)⟩
theorem jvFz {Nz:Nat->Prop} {α β:Type} {sz s':Nat} {R:ER α} {R':ER β} {t:Ty} {kk:Nat} {p:Vl} {y:α} {z:β} {off:Nat} [hp:Fd P t kk off] (ii:Nat) (qa:ops[ii]?=some ⟨some d,.fieldAddr t x kk,ty,pos,af,g⟩) (h:Pz M Nz w1 sz R p y) (hf:∀ f bi,R w1 f y bi->∃ bj,R' w1 (λj=>f (off+j)) z bj/\∀ c∈bj,c∈bi) (kt:∀ p',Pz M Nz w1 s' R' p' z->J n X N w0 ((d,p')::L) D tt CC (zE P ops K (Sm Mv) f (ls.setIfInBounds ii true))) (hc:vR ops n L g d=true:=by rfl) (he:ev L x=some p:=by rfl) (hb:bqc ops ls ii true=true:=by kernel_rfl):J n X N w0 L D tt CC (zE P ops K (Sm Mv) (f+1) ls):=⟨λa w F H xq qc qd=>bq hb qa (vFz hp.h F hc he h hf (λa' p' x0 F'=>(kt p' x0).h a' w F' H xq qc qd))⟩
theorem oLv {Nz:Nat->Prop} {α β:Type} {sz:Nat} {R:ER α} {R':ER β} {t:Ty} {kk:Nat} {p:Vl} {y:α} {z:β} {off:Nat} [hp:Fd P t kk off] (ii:Nat) (qa:ops[ii]?=some ⟨some d,.fieldAddr t x kk,ty,pos,af,g⟩) (h:Pz M Nz w1 sz R p y) (hf:∀ f bi,R w1 f y bi->∃ bj,R' w1 (λj=>f (off+j)) z bj/\∀ c∈bj,c∈bi) (kt:∀ p',Pz M Nz w1 1 R' p' z->J n X N w0 ((d,p')::L) D tt CC (zE P ops K (Sm Mv) f (ls.setIfInBounds ii true))) (hc:vR ops n L g d=true:=by rfl) (he:ev L x=some p:=by rfl) (hb:bqc ops ls ii true=true:=by kernel_rfl):J n X N w0 L D tt CC (zE P ops K (Sm Mv) (f+1) ls):=jvFz (s':=1) ii qa h hf kt hc he hb
theorem oLi {Nz:Nat->Prop} {α:Type} {sz:Nat} {R:ER α} {t:Ty} {p:Vl} {y:List α} [qa:Ag P t false] (ii:Nat) (qc:ops[ii]?=some ⟨some d,.load t x,ty,pos,af,g⟩) (h:Pz M Nz w1 1 (zV sz R) p y) (kt:∀ v,Bo Nz w1 (Sl sz R) v y->J n X N w0 ((d,v)::L) D tt CC (zE P ops K (Sm Mv) f (ls.setIfInBounds ii true))) (hc:vR ops n L g d=true:=by rfl) (he:ev L x=some p:=by rfl) (s:∀ {w},Sep X N w0 w D->∀ w',Sm Mv w w'->Sm M w1 w':=by exact Sep.v) (hb:bqc ops ls ii true=true:=by kernel_rfl):J n X N w0 L D tt CC (zE P ops K (Sm Mv) (f+1) ls):=⟨λa w F H xq qd qe=>bq hb qc (vlSz qa.h F hc he (s H) h (λa' v x0 F'=>(kt v x0).h a' w F' H xq qd qe))⟩
theorem jqFz {Nz:Nat->Prop} {α β:Type} {sz s':Nat} {R:ER α} {R':ER β} {t:Ty} {kk:Nat} {p:Vl} {y:α} {z:β} {off:Nat} [hp:Fd P t kk off] (h:Pz M Nz w1 sz R p y) (hf:∀ f bi,R w1 f y bi->∃ bj,R' w1 (λj=>f (off+j)) z bj/\∀ c∈bj,c∈bi) (kt:∀ p',Pz M Nz w1 s' R' p' z->J n X N w0 ((d,p')::L) D tt CC (Gq P ops X N w0 D K rest)) (hc:vR ops n L g d=true:=by rfl) (he:ev L x=some p:=by rfl):J n X N w0 L D tt CC (Gq P ops X N w0 D K (⟨some d,.fieldAddr t x kk,ty,pos,af,g⟩::rest)):=⟨λa w F H xq qa qc=>qFz hp.h F hc he h hf (λa' p' x0 F'=>(kt p' x0).h a' w F' H xq qa qc)⟩
theorem oKp {Nz:Nat->Prop} {α β:Type} {sz:Nat} {R:ER α} {R':ER β} {t:Ty} {kk:Nat} {p:Vl} {y:α} {z:β} {off:Nat} [hp:Fd P t kk off] (h:Pz M Nz w1 sz R p y) (hf:∀ f bi,R w1 f y bi->∃ bj,R' w1 (λj=>f (off+j)) z bj/\∀ c∈bj,c∈bi) (kt:∀ p',Pz M Nz w1 1 R' p' z->J n X N w0 ((d,p')::L) D tt CC (Gq P ops X N w0 D K rest)) (hc:vR ops n L g d=true:=by rfl) (he:ev L x=some p:=by rfl):J n X N w0 L D tt CC (Gq P ops X N w0 D K (⟨some d,.fieldAddr t x kk,ty,pos,af,g⟩::rest)):=jqFz (s':=1) h hf kt hc he
theorem oKs {Nz:Nat->Prop} {α:Type} {sz:Nat} {R:ER α} {t:Ty} {p:Vl} {y:List α} [qa:Ag P t false] (h:Pz M Nz w1 1 (zV sz R) p y) (kt:∀ v,Bo Nz w1 (Sl sz R) v y->J n X N w0 ((d,v)::L) D tt CC (Gq P ops X N w0 D K rest)) (hc:vR ops n L g d=true:=by rfl) (he:ev L x=some p:=by rfl) (s:∀ {w},Sep X N w0 w D->∀ w',Below w.heap.size w w'->Sm M w1 w':=by exact Sep.q):J n X N w0 L D tt CC (Gq P ops X N w0 D K (⟨some d,.load t x,ty,pos,af,g⟩::rest)):=⟨λa w F H xq qc qd=>qlSz qa.h F hc he (s H) h (λa' v x0 F'=>(kt v x0).h a' w F' H xq qc qd)⟩
theorem jRcl {t E v p l i} [ht:Ug P t (.slice E)] (hv:∀ w,(zeroValue E).run P w= .ok (.int .i64 0) w) (T:RTl v l.length i p) (kt:J n X N w0 L (rl 1 xF E v (l.take i++List.replicate (l.length - i) 0)::D) tt CC (wpList P ops Q rest)) (hc:gok ops L g=true:=by rfl) (hx:ev L x=some p:=by rfl):J n X N w0 L (rl 1 xF E v l::D) tt CC (wpList P ops Q (⟨none,.call ⟨.builtin .clear,#[x],#[t]⟩,ty,pos,af,g⟩::rest)):=⟨λa w F H xq qa qc=>oRcl ht.h hv F hc hx H T (λw' H'=>(kt).h a w' F H' xq qa qc)⟩
theorem jFoc {α:Type} {sz:Nat} {R:ER α} [hR:FrC sz R] {t E:Ty} {v p:Vl} {xss:List (List α)} {i:Nat} {l:List α} [qa:Ag P t false] (hp:RPt v 1 i p) (hi:xss[i]?=some l) (kt:∀ u,i<xss.length->J n X N w0 ((d,u)::L) (ow (V:=Sl sz R) u l::rl 1 (RS sz R) E v ((xss.map .inr).set i (.inl u))::D) tt CC (wpList P ops Q rest)) (hc:vR ops n L g d=true:=by rfl) (he:ev L x=some p:=by rfl):J n X N w0 L (rl 1 (zV sz R) E v xss::D) tt CC (wpList P ops Q (⟨some d,.load t x,ty,pos,af,g⟩::rest)):=⟨λa w F H xq qc qd=>oFoc qa.h F hc he H hp hi (λa' u H' x0 F'=>(kt u x0).h a' w F' H' xq qc qd)⟩
theorem jRtl {α:Type} {R:ER α} [hR:FrC 1 R] {lo:Operand} {t E:Ty} {v:Vl} {l r:List α} [ht:Ug P t (.slice E)] [qa:Sz P E 1] (j:Nat) (hs:sl l i (l.length:Int)=some r) (kt:∀ p,RTl v l.length i.toNat p->J n X N w0 ((d,p)::L) D tt CC (wpList P ops Q rest)) (hc:vR ops n L g d=true:=by rfl) (hx:ev L x=some v:=by rfl) (qc:ev L lo=some (.int .i64 i):=by rfl) (hj:D[j]?=some (rl 1 R E v l):=by rfl):J n X N w0 L D tt CC (wpList P ops Q (⟨some d,.slice t x (some lo) none none,ty,pos,af,g⟩::rest)):=⟨λa w F H xq qd qe=>oRtl ht.h qa.h F hc hx qc H j hj hs (λa' p x0 F'=>(kt p x0).h a' w F' H xq qd qe)⟩
theorem jRl {α:Type} {sz:Nat} {R:ER α} [hR:FrC sz R] {t E:Ty} {v:Vl} {l:List α} {y:α} [ht:Ug P t (.slice E)] [qa:Sz P E sz] (j:Nat) (qc:ix l i=some y) (kt:∀ p,RPt v sz i.toNat p->J n X N w0 ((d,p)::L) D tt CC (wpList P ops Q rest)) (hc:vR ops n L g d=true:=by rfl) (he:ev L x=some v:=by rfl) (hi:ev L iy=some (.int .i64 i):=by rfl) (hj:D[j]?=some (rl sz R E v l):=by rfl):J n X N w0 L D tt CC (wpList P ops Q (⟨some d,.indexAddr t x iy,ty,pos,af,g⟩::rest)):=⟨λa w F H xq qd qe=>oRl ht.h qa.h F hc he hi H j hj qc (λa' p _ x0 F'=>(kt p x0).h a' w F' H xq qd qe)⟩
theorem jRi {α:Type} {sz:Nat} {R:ER α} [hR:FrC sz R] {t E:Ty} {v:Vl} {l:List α} {y:α} [ht:Ug P t (.slice E)] [qa:Sz P E sz] (j:Nat) (qc:ix l i=some y) (kt:∀ p,RPt v sz i.toNat p->J n X N w0 ((d,p)::L) D tt CC (wpList P ops Q rest)) (hc:vR ops n L g d=true:=by rfl) (he:ev L x=some v:=by rfl) (hi:ev L iy=some (.int .i64 i):=by rfl) (hj:D[j]?=some (rw N1 sz R E v l):=by rfl):J n X N w0 L D tt CC (wpList P ops Q (⟨some d,.indexAddr t x iy,ty,pos,af,g⟩::rest)):=⟨λa w F H xq qd qe=>oRi ht.h qa.h F hc he hi H j hj qc (λa' p _ x0 F'=>(kt p x0).h a' w F' H xq qd qe)⟩
theorem jRo {α:Type} {R:ER α} [hR:FrC 1 R] {t E:Ty} {v:Vl} {l:List α} {y:α} [ht:Ug P t (.slice E)] [qa:Sz P E 1] (j:Nat) (qc:ix l i=some y) (kt:∀ p,OPt v i.toNat p->J n X N w0 ((d,p)::L) D tt CC (wpList P ops Q rest)) (hc:vR ops n L g d=true:=by rfl) (he:ev L x=some v:=by rfl) (hi:ev L iy=some (.int .i64 i):=by rfl) (hj:D[j]?=some (ow (V:=Sl 1 R) v l):=by rfl):J n X N w0 L D tt CC (wpList P ops Q (⟨some d,.indexAddr t x iy,ty,pos,af,g⟩::rest)):=⟨λa w F H xq qd qe=>oRo ht.h qa.h F hc he hi H j hj qc (λa' p _ x0 F'=>(kt p x0).h a' w F' H xq qd qe)⟩
theorem xWi {α:Type} {sz:Nat} {R:ER α} [hR:FrC sz R] {t E E2:Ty} {v p:Vl} {xss:List (List α)} {i:Nat} {l:List α} [qa:Ag P t false] (hp:RPt v 1 i p) (hi:xss[i]?=some l) (kt:∀ u,J n X N w0 ((d,u)::L) (rl sz R E2 u l::rl 1 (RH sz R E2) E v ((xss.map .inr).set i (.inl u))::D) tt CC (wpList P ops Q rest)) (hc:vR ops n L g d=true:=by rfl) (he:ev L x=some p:=by rfl):J n X N w0 L (rl 1 (bM sz R E2) E v xss::D) tt CC (wpList P ops Q (⟨some d,.load t x,ty,pos,af,g⟩::rest)):=⟨λa w F H xq qc qd=>oFoR qa.h F hc he H hp hi (λa' u H' F'=>(kt u).h a' w F' H' xq qc qd)⟩
theorem xXy {α:Type} {sz:Nat} {R:ER α} [hR:FrC sz R] {y:Operand} {t E E2:Ty} {v p u u0:Vl} {xss l':List (List α)} {i:Nat} {l:List α} [qa:Sz P t 1] (hp:RPt v 1 i p) (hi:i<((xss.map Sum.inr).set i (Sum.inl u0):List (Vl ⊕ List α)).length) (hl:xss.set i l=l') (kt:J n X N w0 L (rl 1 (bM sz R E2) E v l'::D) tt CC (wpList P ops Q rest)) (hc:gok ops L g=true:=by rfl) (hx:ev L x=some p:=by rfl) (hy:ev L y=some u:=by rfl):J n X N w0 L (rl 1 (RH sz R E2) E v ((xss.map .inr).set i (.inl u0))::rl sz R E2 u l::D) tt CC (wpList P ops Q (⟨none,.store t x y,ty,pos,af,g⟩::rest)):=⟨λa w F H xq qc qd=>oSfR qa.h F hc hx hy H hp hi hl (λw' H'=>(kt).h a w' F H' xq qc qd)⟩
theorem jEn {α:Type} {sz:Nat} {R:ER α} {y:Operand} {t t':Ty} {v:Vl} {l:List α} {e0:Ty} [ht:Ug P t (.slice e0)] (h:∀ {w},Sep X N w0 w D->Bo (All w) w (Sl sz R) v l) (kt:∀ (b:Bool),(b=true->l=[])->J n X N w0 ((d,.bool b)::L) D tt CC (wpList P ops Q rest)) (hc:vR ops n L g d=true:=by rfl) (e:ev L x=some v:=by rfl) (e':ev L y=some (.slice none 0 0):=by rfl):J n X N w0 L D tt CC (wpList P ops Q (⟨some d,.binOp .eql t x y t',ty,pos,af,g⟩::rest)):=⟨λa w F H xq qa qc=>oEn ht.h F hc e e' (h H) (λa' b x0 F'=>(kt b x0).h a' w F' H xq qa qc)⟩
theorem jEz {α:Type} {sz:Nat} {R:ER α} {y:Operand} {t t':Ty} {v:Vl} {l:List α} {e0:Ty} [ht:Ug P t (.slice e0)] (h:∀ {w},Sep X N w0 w D->Bo (All w) w (Sl sz R) v l) (hz:l=[]->v= .slice none 0 0) (kt:J n X N w0 ((d,.bool l.isEmpty)::L) D tt CC (wpList P ops Q rest)) (hc:vR ops n L g d=true:=by rfl) (e:ev L x=some v:=by rfl) (e':ev L y=some (.slice none 0 0):=by rfl):J n X N w0 L D tt CC (wpList P ops Q (⟨some d,.binOp .eql t x y t',ty,pos,af,g⟩::rest)):=⟨λa w F H xq qa qc=>oEz ht.h F hc e e' (h H) hz (λa' F'=>(kt).h a' w F' H xq qa qc)⟩
theorem jIz {Nz:Nat->Prop} {α:Type} {sz:Nat} {R:ER α} {t:Ty} {v:Vl} {l:List α} {e:Ty} {y:α} [ht:Ug P t (.slice e)] [qa:Sz P e sz] (h:Bz M Nz w1 sz R v l) (qc:ix l i=some y) (kt:∀ p,Pz M Nz w1 sz R p y->J n X N w0 ((d,p)::L) D tt CC (wpList P ops Q rest)) (hc:vR ops n L g d=true:=by rfl) (he:ev L x=some v:=by rfl) (hi:ev L iy=some (.int .i64 i):=by rfl):J n X N w0 L D tt CC (wpList P ops Q (⟨some d,.indexAddr t x iy,ty,pos,af,g⟩::rest)):=⟨λa w F H xq qd qe=>oIz ht.h qa.h F hc he hi h qc (λa' p x0 F'=>(kt p x0).h a' w F' H xq qd qe)⟩
theorem jFz {Nz:Nat->Prop} {α β:Type} {sz s':Nat} {R:ER α} {R':ER β} {t:Ty} {kk:Nat} {p:Vl} {y:α} {z:β} {off:Nat} [hp:Fd P t kk off] (h:Pz M Nz w1 sz R p y) (hf:∀ f bi,R w1 f y bi->∃ bj,R' w1 (λj=>f (off+j)) z bj/\∀ c∈bj,c∈bi) (kt:∀ p',Pz M Nz w1 s' R' p' z->J n X N w0 ((d,p')::L) D tt CC (wpList P ops Q rest)) (hc:vR ops n L g d=true:=by rfl) (he:ev L x=some p:=by rfl):J n X N w0 L D tt CC (wpList P ops Q (⟨some d,.fieldAddr t x kk,ty,pos,af,g⟩::rest)):=⟨λa w F H xq qa qc=>oFz hp.h F hc he h hf (λa' p' x0 F'=>(kt p' x0).h a' w F' H xq qa qc)⟩
theorem oFa {Nz:Nat->Prop} {α β:Type} {sz:Nat} {R:ER α} {R':ER β} {t:Ty} {kk:Nat} {p:Vl} {y:α} {z:β} {off:Nat} [hp:Fd P t kk off] (h:Pz M Nz w1 sz R p y) (hf:∀ f bi,R w1 f y bi->∃ bj,R' w1 (λj=>f (off+j)) z bj/\∀ c∈bj,c∈bi) (kt:∀ p',Pz M Nz w1 1 R' p' z->J n X N w0 ((d,p')::L) D tt CC (wpList P ops Q rest)) (hc:vR ops n L g d=true:=by rfl) (he:ev L x=some p:=by rfl):J n X N w0 L D tt CC (wpList P ops Q (⟨some d,.fieldAddr t x kk,ty,pos,af,g⟩::rest)):=jFz (s':=1) h hf kt hc he
theorem jU1 {t t' z ut} [hs:Ug P t ut] [ht:Ug P t' (.int .u64)] (hi:xM i) (hz:nn i=some z) (kt:J n X N w0 ((d,.int .u64 z)::L) D tt CC (wpList P ops Q rest)) (hc:vR ops n L g d=true:=by rfl) (e:ev L x=some (.int .i64 i):=by rfl):J n X N w0 L D tt CC (wpList P ops Q (⟨some d,.convert t t' x,ty,pos,af,g⟩::rest)):=⟨λa w F H xq qa qc=>oU1 hs.h ht.h F hc e hi hz (λa' F'=>(kt).h a' w F' H xq qa qc)⟩
theorem jU2 {t t' z} (e:ev L x=some (.int .u64 z)) (kt:J n X N w0 ((d,.int .u64 (z / 2))::L) D tt CC (wpList P ops Q rest)) (hc:vR ops n L g d=true:=by rfl):J n X N w0 L D tt CC (wpList P ops Q (⟨some d,.binOp .shr t x (.const (.int .u64 1)) t',ty,pos,af,g⟩::rest)):=⟨λa w F H xq qa qc=>oU2 F hc e (λa' F'=>(kt).h a' w F' H xq qa qc)⟩
theorem jU3 {t t' z ut} [hs:Ug P t ut] [ht:Ug P t' (.int .i64)] (hi:xM z) (kt:J n X N w0 ((d,.int .i64 z)::L) D tt CC (wpList P ops Q rest)) (hc:vR ops n L g d=true:=by rfl) (e:ev L x=some (.int .u64 z):=by rfl):J n X N w0 L D tt CC (wpList P ops Q (⟨some d,.convert t t' x,ty,pos,af,g⟩::rest)):=⟨λa w F H xq qa qc=>oU3 hs.h ht.h F hc e hi (λa' F'=>(kt).h a' w F' H xq qa qc)⟩
theorem jRM {α:Type} {sz:Nat} {R:ER α} [hR:FrC sz R] {y:Operand} {t E:Ty} {z:Vl} {bytes:Nat} {zero:α} {l:List α} [ht:Ug P t (.slice E)] [qa:If P E z sz bytes] (qc:∀ w,R w (λj=>z.cells[j]?) zero []) (hl:nJ zero i=some l) (kt:∀ v,J n X N w0 ((d,v)::L) (rl sz R E v l::D) tt CC (wpList P ops Q rest)) (qd:z.cells.size=sz:=by rfl) (qe:0<sz:=by decide) (qf:bytes<=1024:=by decide) (hc:vR ops n L g d=true:=by rfl) (hx:ev L x=some (.int .i64 i):=by rfl) (hy:ev L y=some (.int .i64 i):=by rfl):J n X N w0 L D tt CC (wpList P ops Q (⟨some d,.makeSlice t x y,ty,pos,af,g⟩::rest)):=⟨λa w F H xq qg qh=>oRM ht.h qa.h qd qe qf qc F hc hx hy hl H (λa' w' v H' F'=>(kt v).h a' w' F' H' xq qg qh)⟩
theorem cU {f xs ys us vs} (hh:evs L xs=some us/\evs L ys=some vs) (kt:J n X N w0 ((d,.func f us.toArray vs.toArray)::L) D tt CC (wpList P ops Q rest)) (hc:vR ops n L g d=true:=by rfl):J n X N w0 L D tt CC (wpList P ops Q (⟨some d,.makeFunc f xs.toArray ys.toArray,ty,pos,af,g⟩::rest)):=⟨λa w F H xq qa qc=>oHa F hc hh.1 hh.2 (λa' F'=>(kt).h a' w F' H xq qa qc)⟩
theorem xZe {nn t e z parts ps idx xs vs cs} [ht:Ug P t (.array nn e)] [hz:Zv P t z] [qa:Sz P e 1] (hh:parts.toList=ps/\ps.map Prod.fst=idx/\ps.map Prod.snd=xs/\evs L xs=some vs/\(idx.zip vs).foldl (λcs p=>cs.setIfInBounds p.1 p.2) z.cells=cs) (kt:J n X N w0 ((d,.agg cs)::L) D tt CC (wpList P ops Q rest)) (hc:vR ops n L g d=true:=by rfl) (hone:∀ {w},Sep X N w0 w D->∀ v∈vs,v.oneCell'=true:=by intro _ _;repeat (first | exact on | refine oc rfl ?_)) (qc:idx.all (λi=>decide (i<z.cells.size))=true:=by rfl):J n X N w0 L D tt CC (wpList P ops Q (⟨some d,.build t parts,ty,pos,af,g⟩::rest)):=⟨λa w F H xq qd qe=>oAh ht.h hz.h qa.h F hc hh.1 hh.2.1 hh.2.2.1 hh.2.2.2.1 (hone H) qc hh.2.2.2.2 (λa' F'=>(kt).h a' w F' H xq qd qe)⟩
theorem oHu {nn t e y l cs z} [ht:Ug P t (.array nn e)] [qa:Ag P e false] [qc:Sz P e 1] (qd:ix l i=some z) (hh:ev L x=some (.agg cs)/\ev L y=some (.int .i64 i)) (kt:J n X N w0 ((d,.int .i64 z)::L) D tt CC (wpList P ops Q rest)) (hc:vR ops n L g d=true:=by rfl) (hl:cs.toList=l.map (Value.int .i64):=by rfl) (hn:l.length=nn:=by rfl):J n X N w0 L D tt CC (wpList P ops Q (⟨some d,.index t x y,ty,pos,af,g⟩::rest)):=⟨λa w F H xq qe qf=>oKb ht.h qa.h qc.h F hc hh.1 hh.2 hl hn qd (λa' F'=>(kt).h a' w F' H xq qe qf)⟩
theorem oFi {nn b:Nat} {t e:Ty} {y:Operand} {l:List Int} {z:Int} [ht:Ug P t (.array nn e)] [qa:Sz P e 1] (qc:ix l i=some z) (hh:ev L x=some (.pointer (some ⟨b,0,none⟩))/\ev L y=some (.int .i64 i)) (kt:J n X N w0 ((d,.pointer (some ⟨b,i.toNat,none⟩))::L) D tt CC (wpList P ops Q rest)) (hc:vR ops n L g d=true:=by rfl) (hn:l.length=nn:=by rfl):J n X N w0 L D tt CC (wpList P ops Q (⟨some d,.indexAddr t x y,ty,pos,af,g⟩::rest)):=⟨λa w F H xq qd qe=>oFc ht.h qa.h F hc hh.1 hh.2 hn qc (λa' F'=>(kt).h a' w F' H xq qd qe)⟩
theorem jX {T v cs} (hh:ev L x=some v/\v.cells=cs.toArray) (kt:∀ b,J n X N w0 ((d,.pointer (some ⟨b,0,none⟩))::L) (bx b cs T::D) tt CC (wpList P ops Q rest)) (hc:vR ops n L g d=true:=by rfl):J n X N w0 L D tt CC (wpList P ops Q (⟨some d,.box T x,ty,pos,af,g⟩::rest)):=⟨λa w F H xq qa qc=>oX F hc hh.1 hh.2 H (λa' w' b H' F'=>(kt b).h a' w' F' H' xq qa qc)⟩
theorem aM {T z cs} [hz:Zv P T z] (ha:z.cells=cs.toArray) (kt:∀ b,J n X N w0 ((d,.pointer (some ⟨b,0,none⟩))::L) (bx b cs T::D) tt CC (wpList P ops Q rest)) (hc:vR ops n L g d=true:=by rfl):J n X N w0 L D tt CC (wpList P ops Q (⟨some d,.alloc T,ty,pos,af,g⟩::rest)):=⟨λa w F H xq qa qc=>oA hz.h F hc ha H (λa' w' b H' F'=>(kt b).h a' w' F' H' xq qa qc)⟩
end
end
section
open Go.RowKit
variable {x:Operand} {fi:FuncId} {r1:ResultVar}
theorem e2 {α β:Type} {a:α} {b:β}:a=a/\b=b:=⟨rfl,rfl⟩
theorem e3 {α β γ:Type} {a:α} {b:β} {c:γ}:a=a/\b=b/\c=c:=⟨rfl,rfl,rfl⟩
theorem e5 {α β γ δ ε:Type} {a:α} {b:β} {c:γ} {d:δ} {e:ε}:a=a/\b=b/\c=c/\d=d/\e=e:=⟨rfl,rfl,rfl,rfl,rfl⟩
class BdT (P:Program) (t:Ty) (fs:outParam (Array Field)) (z:outParam Vl) (places:outParam (Array (Nat×Nat))):Prop where
  u:P.underlying t=some (.struct fs)
  z:∀ w,(zeroValue t).run P w= .ok z w
  p:∀ w,(fs.mapM λf=>do pure (f.offset,<- sizeOf f.type):Sem (Array (Nat×Nat))).run P w= .ok places w
class Len {α:Type} (l:List α) (k:outParam Nat):Prop where
  h:l.length=k
instance {α:Type}:Len ([]:List α) 0:=⟨rfl⟩
instance {α:Type} {x:α} {l:List α} {k:Nat} [h:Len l k]:Len (x::l) (k+1):=⟨by rw[Ao,h.h]⟩
theorem nel {p q N:Nat->Prop} (f:∀ c,p c->N c) (g:∀ c,q c->N c):∀ c,p c∨q c->N c:=λc h=>h.elim (f c) (g c)
class Fv (P:Program) (t:Ty) (k:Nat) (off:outParam Nat):Prop where
  h:∀ (cs:Array Vl) (v:Vl) (w:Wd),cs[off]?=some v->(Instr.field t (.agg cs) k).run P w= .ok v w
theorem Fv.mk' {P t k off fs f} (ht:P.underlying t=some (.struct fs)) (hk:fs[k]?=some f) (ho:f.offset=off) (ha:∀ w,(isAgg f.type).run P w= .ok false w):Fv P t k off:=⟨λcs v w h=>by
 subst ho
 simp [Instr.field,run_underlying ht,hk,asAgg,part,ha,h]⟩
theorem xTb {P a n L d ty pos af g t k off cs v} [hf:Fv P t k off] (F:Sk a n L) (e:ev L x=some (.agg cs)) (hv:cs[off]?=some v) {w}:(execOp a.eval ⟨d,.field t x k,ty,pos,af,g⟩).run P w= .ok (.value v) w:=by
 unfold execOp;simp [F.ev e,hf.h cs v w hv]
section
variable {P:Program} {ops:Array Oper} {Q Q':Exit->Act->Wd->Prop} {fn:Func} {n:Nat} {X X':List Nat} {N N' M N1 Mv:Nat->Prop} {w0 w w1:Wd} {L L':List (Nat×Vl)} {D D' D0:List As} {A B:As} {ρ σ τ:Type} {tt:Option ρ} {CC:ρ->Prop} {G G' K:Act->Wd->Prop} {R:Ending->Wd->Prop} {l l' rest:List Oper} {d f:Nat} {ls:Array Bool} {ty:Ty} {pos:String} {af:Array Edge} {g:Option (Nat×Bool)}
theorem jb (i:Nat) {t} {b o} {v} {cs} {T} [hag:Ag P t false] (hh:D[i]?=some (bx b cs T)/\ev L x=some (.pointer (some ⟨b,o,none⟩))/\cs[o]?=some v) (kt:J n X N w0 ((d,v)::L) D tt CC (wpList P ops Q rest)) (hc:vR ops n L g d=true:=by rfl):J n X N w0 L D tt CC (wpList P ops Q (⟨some d,.load t x,ty,pos,af,g⟩::rest)):=⟨λa w F H xq h1 h2=>oB hag.h F hc hh.2.1 (H.b i hh.1) hh.2.2 (λa' F'=>kt.h a' w F' H xq h1 h2)⟩
theorem aH (i:Nat) {t} {b o sz} {cs vs} {T} [hag:Ag P t true] [hsz:Sz P t sz] (hh:D[i]?=some (bx b cs T)/\ev L x=some (.pointer (some ⟨b,o,none⟩))/\(cs.drop o).take sz=vs) (kt:J n X N w0 ((d,.agg vs.toArray)::L) D tt CC (wpList P ops Q rest)) (hl:vs.length=sz:=by rfl) (hc:vR ops n L g d=true:=by rfl):J n X N w0 L D tt CC (wpList P ops Q (⟨some d,.load t x,ty,pos,af,g⟩::rest)):=⟨λa w F H xq h1 h2=>oBA hag.h hsz.h F hc hh.2.1 (H.b i hh.1) hh.2.2 hl (λa' F'=>kt.h a' w F' H xq h1 h2)⟩
theorem jbK {t b o v cs T} [hag:Ag P t false] (hK:Bk N w0 b cs T) (hh:ev L x=some (.pointer (some ⟨b,o,none⟩))/\cs[o]?=some v) (kt:J n X N w0 ((d,v)::L) D tt CC (wpList P ops Q rest)) (hc:vR ops n L g d=true:=by rfl):J n X N w0 L D tt CC (wpList P ops Q (⟨some d,.load t x,ty,pos,af,g⟩::rest)):=⟨λa w F H xq h1 h2=>oB hag.h F hc hh.1 (hK.o H.sm) hh.2 (λa' F'=>kt.h a' w F' H xq h1 h2)⟩
theorem oIq {t b o sz cs vs T} [hag:Ag P t true] [hsz:Sz P t sz] (hK:Bk N w0 b cs T) (hh:ev L x=some (.pointer (some ⟨b,o,none⟩))/\(cs.drop o).take sz=vs) (kt:J n X N w0 ((d,.agg vs.toArray)::L) D tt CC (wpList P ops Q rest)) (hl:vs.length=sz:=by rfl) (hc:vR ops n L g d=true:=by rfl):J n X N w0 L D tt CC (wpList P ops Q (⟨some d,.load t x,ty,pos,af,g⟩::rest)):=⟨λa w F H xq h1 h2=>oBA hag.h hsz.h F hc hh.1 (hK.o H.sm) hh.2 hl (λa' F'=>kt.h a' w F' H xq h1 h2)⟩
theorem oFw {t fs z places parts ps idx xs vs cs} (qs:List (Nat×List Vl)) [hb:BdT P t fs z places] (hh:parts.toList=ps/\ps.map Prod.fst=idx/\ps.map Prod.snd=xs/\evs L xs=some vs/\xRb z.cells qs=cs) (hf:∀ {w},Sep X N w0 w D->xUy places z.cells.size idx vs qs) (kt:J n X N w0 ((d,.agg cs)::L) D tt CC (wpList P ops Q rest)) (hc:vR ops n L g d=true:=by rfl):J n X N w0 L D tt CC (wpList P ops Q (⟨some d,.build t parts,ty,pos,af,g⟩::rest)):=⟨λa w F H xq h1 h2=>oCb hb.u hb.z hb.p F hc hh.1 hh.2.1 hh.2.2.1 hh.2.2.2.1 (hf H) hh.2.2.2.2 (λa' F'=>kt.h a' w F' H xq h1 h2)⟩
theorem jX1 {T v} (he:ev L x=some v) (hone:∀ {w},Sep X N w0 w D->v.oneCell'=true) (kt:∀ b,J n X N w0 ((d,.pointer (some ⟨b,0,none⟩))::L) (bx b [v] T::D) tt CC (wpList P ops Q rest)) (hc:vR ops n L g d=true:=by rfl):J n X N w0 L D tt CC (wpList P ops Q (⟨some d,.box T x,ty,pos,af,g⟩::rest)):=⟨λa w F H xq h1 h2=>oX F hc he (xHy (hone H)) H (λa' w' b H' F'=>(kt b).h a' w' F' H' xq h1 h2)⟩
theorem qC {t fs z places parts ps idx xs vs cs} [hb:BdT P t fs z places] (hh:parts.toList=ps/\ps.map Prod.fst=idx/\ps.map Prod.snd=xs/\evs L xs=some vs/\(idx.zip vs).foldl (λcs p=>cs.setIfInBounds p.1 p.2) z.cells=cs) (kt:J n X N w0 ((d,.agg cs)::L) D tt CC (wpList P ops Q rest)) (hc:vR ops n L g d=true:=by rfl) (hone:∀ {w},Sep X N w0 w D->∀ v∈vs,v.oneCell'=true:=by intro _ _;repeat (first | exact on | refine oc rfl ?_)) (qa:idx.all (λi=>places[i]?==some (i,1) && decide (i<z.cells.size))=true:=by rfl):J n X N w0 L D tt CC (wpList P ops Q (⟨some d,.build t parts,ty,pos,af,g⟩::rest)):=⟨λa w F H xq h1 h2=>xVb hb.u hb.z hb.p F hc hh.1 hh.2.1 hh.2.2.1 hh.2.2.2.1 (hone H) qa hh.2.2.2.2 (λa' F'=>kt.h a' w F' H xq h1 h2)⟩
theorem jQ [hm:Mo P] {id} (kt:J n X N w0 L D tt CC (Gq P l.toArray X N w0 D (Q .normal) l)) (qa:Region.lexB .any l.toArray=true:=by kernel_rfl):J n X N w0 L D tt CC ((Code.region id l.toArray true).wp P Q):=⟨λa w F H xq h1 h2=>xQ H hm.h qa (kt.h a w F H xq h1 h2)⟩
theorem lE (kt:J n X N w0 L D tt CC K):J n X N w0 L D tt CC (Gq P ops X N w0 D K []):=⟨λa w F H xq h1 h2=>oMn (λw' H'=>kt.h a w' F H' xq h1 h2)⟩
theorem jqv {op v} (hr:∀ {a w},Sk a n L->Sep X N w0 w D->∀ w',Below w.heap.size w w'->(execOp a.eval ⟨some d,op,ty,pos,af,g⟩).run P w'= .ok (.value v) w') (kt:J n X N w0 ((d,v)::L) D tt CC (Gq P ops X N w0 D K rest)) (hc:vR ops n L g d=true:=by rfl):J n X N w0 L D tt CC (Gq P ops X N w0 D K (⟨some d,op,ty,pos,af,g⟩::rest)):=⟨λa w F H xq h1 h2=>nE F hc (hr F H) (λa' F'=>kt.h a' w F' H xq h1 h2)⟩
theorem xYj {C K}:∀ (k:Nat) {a:Act} {L:List (Nat×Vl)} {l:List Oper} (F:Sk a n L) (h:mX ops n k L l=some (L',l')) (c:∀ a',Sk a' n L'->wpQuiet P ops C K l' a'),wpQuiet P ops C K l a
 | 0,a,L,l,F,h,c=>by
  obtain⟨rfl,rfl⟩:=Prod.mk.inj (Option.some.inj h);exact c a F
 | k+1,a,L,[],F,h,c=>by cases h
 | k+1,a,L,⟨some d,op,ty,pos,af,g⟩::l,F,h,c=>by
  change (match vR ops n L g d with | true=>(match pv L op with | some v=>mX ops n k ((d,v)::L) l | none=>none) | false=>(match gno ops L g && Nat.blt d n with | true=>mX ops n k ((d,undef)::L) l | false=>none))=_ at h
  split at h
  ·rename_i h1
   split at h
   ·rename_i v h2
    exact nE F h1 (λw _=>oJh F h2) (λa F=>xYj k F h c)
   ·cases h
  ·split at h
   ·rename_i h2
    rw[Be] at h2;exact q_no F h2.1 h2.2 (λa F=>xYj k F h c)
   ·cases h
 | k+1,a,L,⟨none,op,ty,pos,af,g⟩::l,F,h,c=>by
  change (match gno ops L g with | true=>mX ops n k L l | false=>none)=_ at h
  split at h
  ·rename_i h1
   unfold wpQuiet
   rw[if_neg (by rw[uH F (o:=⟨none,op,ty,pos,af,g⟩) h1];exact Bool.false_ne_true)];have:a.put none undef=a:=rfl
   first | exact xYj k F h c | (simp only[this];exact xYj k F h c)
  ·cases h
theorem vY (k:Nat) (e:mX ops n k L l=some (L',l')) (kt:J n X N w0 L' D tt CC (Gq P ops X N w0 D K l')):J n X N w0 L D tt CC (Gq P ops X N w0 D K l):=⟨λa w F H xq h1 h2=>xYj k F e (λa' F'=>kt.h a' w F' H xq h1 h2)⟩
theorem jqb (i:Nat) {t} {b o} {v} {cs} {T} [hag:Ag P t false] (hh:D[i]?=some (bx b cs T)/\ev L x=some (.pointer (some ⟨b,o,none⟩))/\cs[o]?=some v) (kt:J n X N w0 ((d,v)::L) D tt CC (Gq P ops X N w0 D K rest)) (hc:vR ops n L g d=true:=by rfl):J n X N w0 L D tt CC (Gq P ops X N w0 D K (⟨some d,.load t x,ty,pos,af,g⟩::rest)):=⟨λa w F H xq h1 h2=>qB hag.h F hc hh.2.1 (H.qb i hh.1) hh.2.2 (λa' F'=>kt.h a' w F' H xq h1 h2)⟩
theorem jqbA (i:Nat) {t} {b o sz} {cs vs} {T} [hag:Ag P t true] [hsz:Sz P t sz] (hh:D[i]?=some (bx b cs T)/\ev L x=some (.pointer (some ⟨b,o,none⟩))/\(cs.drop o).take sz=vs) (kt:J n X N w0 ((d,.agg vs.toArray)::L) D tt CC (Gq P ops X N w0 D K rest)) (hl:vs.length=sz:=by rfl) (hc:vR ops n L g d=true:=by rfl):J n X N w0 L D tt CC (Gq P ops X N w0 D K (⟨some d,.load t x,ty,pos,af,g⟩::rest)):=⟨λa w F H xq h1 h2=>qBA hag.h hsz.h F hc hh.2.1 (H.qb i hh.1) hh.2.2 hl (λa' F'=>kt.h a' w F' H xq h1 h2)⟩
theorem sQ {t kk b o o' off} [hp:Fd P t kk off] (hh:ev L x=some (.pointer (some ⟨b,o,none⟩))/\o+off=o') (kt:J n X N w0 ((d,.pointer (some ⟨b,o',none⟩))::L) D tt CC (Gq P ops X N w0 D K rest)) (hc:vR ops n L g d=true:=by rfl):J n X N w0 L D tt CC (Gq P ops X N w0 D K (⟨some d,.fieldAddr t x kk,ty,pos,af,g⟩::rest)):=jqv (λF H w l=>xSd hp.h F hh.1 hh.2) kt hc
theorem jD [hm:Mo P] {id k} [hk:Len l k] (kt:J n X N w0 L D tt CC (zE P l.toArray (Q .normal) (Sm N) k (Array.replicate l.length false))):J n X N w0 L D tt CC ((Code.region id l.toArray true).wp P Q):=⟨λa w F H xq h1 h2=>xD H hm.h (λw' H'=>hk.h.symm ▸ kt.h a w' F H' xq h1 h2)⟩
theorem gV {Kr} (kt:J n X N w0 L D tt CC K) (hr:Region.ready .any ops ls=[]:=by kernel_rfl):J n X N w0 L D tt CC (zE P ops K Kr 0 ls):=⟨λa w F H xq h1 h2=>oGh hr (kt.h a w F H xq h1 h2)⟩
theorem jvv (ii:Nat) {op} {v} (qa:ops[ii]?=some ⟨some d,op,ty,pos,af,g⟩) (hr:∀ {a w},Sk a n L->Sep X N w0 w D->∀ w',Sm Mv w w'->(execOp a.eval ⟨some d,op,ty,pos,af,g⟩).run P w'= .ok (.value v) w') (kt:J n X N w0 ((d,v)::L) D tt CC (zE P ops K (Sm Mv) f (ls.setIfInBounds ii true))) (hc:vR ops n L g d=true:=by rfl) (hb:bqc ops ls ii true=true:=by kernel_rfl):J n X N w0 L D tt CC (zE P ops K (Sm Mv) (f+1) ls):=⟨λa w F H xq h1 h2=>bq hb qa (fV F hc (hr F H) (λa' F'=>kt.h a' w F' H xq h1 h2))⟩
theorem jvz (ii:Nat) {op} {v} (qa:ops[ii]?=some ⟨some d,op,ty,pos,af,g⟩) (hr:∀ {a w},Sk a n L->Sep X N w0 w D->∀ w',True->(execOp a.eval ⟨some d,op,ty,pos,af,g⟩).run P w'= .ok (.value v) w') (kt:J n X N w0 ((d,v)::L) D tt CC (zE P ops K (Sm Mv) f (ls.setIfInBounds ii true))) (hc:vR ops n L g d=true:=by rfl) (hb:bqc ops ls ii false=true:=by kernel_rfl):J n X N w0 L D tt CC (zE P ops K (Sm Mv) (f+1) ls):=⟨λa w F H xq h1 h2=>bz hb qa (fV F hc (hr F H) (λa' F'=>kt.h a' w F' H xq h1 h2))⟩
theorem gH (ii:Nat) {t} {b o} {v} {cs} {T} (qa:ops[ii]?=some ⟨some d,.load t x,ty,pos,af,g⟩) [hag:Ag P t false] (hK:Bk Mv w1 b cs T) (hh:ev L x=some (.pointer (some ⟨b,o,none⟩))/\cs[o]?=some v) (kt:J n X N w0 ((d,v)::L) D tt CC (zE P ops K (Sm Mv) f (ls.setIfInBounds ii true))) (s:∀ {w},Sep X N w0 w D->Sm Mv w1 w:=by exact Sep.sm) (hc:vR ops n L g d=true:=by rfl) (hb:bqc ops ls ii true=true:=by kernel_rfl):J n X N w0 L D tt CC (zE P ops K (Sm Mv) (f+1) ls):=⟨λa w F H xq h1 h2=>bq hb qa (vB hag.h F hc hh.1 (hK.v (s H)) hh.2 (λa' F'=>kt.h a' w F' H xq h1 h2))⟩
theorem rQ (ii:Nat) {t} {b o sz} {cs vs} {T} (qa:ops[ii]?=some ⟨some d,.load t x,ty,pos,af,g⟩) [hag:Ag P t true] [hsz:Sz P t sz] (hK:Bk Mv w1 b cs T) (hh:ev L x=some (.pointer (some ⟨b,o,none⟩))/\(cs.drop o).take sz=vs) (kt:J n X N w0 ((d,.agg vs.toArray)::L) D tt CC (zE P ops K (Sm Mv) f (ls.setIfInBounds ii true))) (s:∀ {w},Sep X N w0 w D->Sm Mv w1 w:=by exact Sep.sm) (hl:vs.length=sz:=by rfl) (hc:vR ops n L g d=true:=by rfl) (hb:bqc ops ls ii true=true:=by kernel_rfl):J n X N w0 L D tt CC (zE P ops K (Sm Mv) (f+1) ls):=⟨λa w F H xq h1 h2=>bq hb qa (vBA hag.h hsz.h F hc hh.1 (hK.v (s H)) hh.2 hl (λa' F'=>kt.h a' w F' H xq h1 h2))⟩
theorem kJ (ii:Nat) {t} {kk b o o' off} (qa:ops[ii]?=some ⟨some d,.fieldAddr t x kk,ty,pos,af,g⟩) [hp:Fd P t kk off] (hh:ev L x=some (.pointer (some ⟨b,o,none⟩))/\o+off=o') (kt:J n X N w0 ((d,.pointer (some ⟨b,o',none⟩))::L) D tt CC (zE P ops K (Sm Mv) f (ls.setIfInBounds ii true))) (hc:vR ops n L g d=true:=by rfl) (hb:bqc ops ls ii true=true:=by kernel_rfl):J n X N w0 L D tt CC (zE P ops K (Sm Mv) (f+1) ls):=jvv ii qa (λF H w l=>xSd hp.h F hh.1 hh.2) kt hc hb
def xZz (ops:Array Oper) (n:Nat):List Nat->List (Nat×Vl)->Option (List (Nat×Vl))
 | [],L=>some L
 | i::is,L=>match ops[i]? with
  | some ⟨some d,op,_,_,_,g⟩=>match vR ops n L g d with
   | true=>match pv L op with
    | some v=>xZz ops n is ((d,v)::L)
    | none=>none
   | false=>match gno ops L g && Nat.blt d n with
    | true=>xZz ops n is ((d,undef)::L)
    | false=>none
  | _=>none
def oHr (ls:Array Bool):List Nat->Array Bool | []=>ls | i::is=>oHr (ls.setIfInBounds i true) is
def oFt (ops:Array Oper):Array Bool->List Nat->Bool | _,[]=>true | ls,i::is=>bqc ops ls i (!cOp ops i) && oFt ops (ls.setIfInBounds i true) is
def oIn:List Nat->Nat->Nat | [],f=>f | _::is,f=>oIn is f+1
theorem bqz {a:Act} {i:Nat} {oi:Oper} {C:Wd->Prop} (hb:bqc ops ls i (!cOp ops i)=true) (hi:ops[i]?=some oi) (h:∀ C:Wd->Prop,wpV P ops C (λa'=>zE P ops K (Sm Mv) f (ls.setIfInBounds i true) a' w) oi a):zE P ops K (Sm Mv) (f+1) ls a w:=by
 cases hz : !cOp ops i with
 | true=>rw[hz] at hb;exact bq hb hi (h _)
 | false=>rw[hz] at hb;exact bz hb hi (h _)
theorem oAy {f:Nat}:∀ (is:List Nat) {a:Act} {L:List (Nat×Vl)} {ls:Array Bool} (F:Sk a n L) (h:xZz ops n is L=some L') (hb:oFt ops ls is=true) (c:∀ a',Sk a' n L'->zE P ops K (Sm Mv) f (oHr ls is) a' w),zE P ops K (Sm Mv) (oIn is f) ls a w
 | [],a,L,ls,F,h,hb,c=>by
  obtain rfl:=Option.some.inj h;exact c a F
 | i::is,a,L,ls,F,h,hb,c=>by
  unfold oFt at hb
  rw[Be] at hb
  unfold xZz at h
  split at h
  ·rename_i d op ty pos af g hi
   split at h
   ·rename_i h1
    split at h
    ·rename_i v h2
     exact bqz (C:=λ_=>True) hb.1 hi (λC=>fV F h1 (λw _=>oJh F h2) (λa F=>oAy is F h hb.2 c))
    ·cases h
   ·split at h
    ·rename_i h2
     rw[Be] at h2;exact bqz (C:=λ_=>True) hb.1 hi (λC=>v_no F h2.1 h2.2 (λa F=>oAy is F h hb.2 c))
    ·cases h
  ·cases h
theorem zG (is:List Nat) (e:xZz ops n is L=some L') (kt:J n X N w0 L' D tt CC (zE P ops K (Sm Mv) f (oHr ls is))) (hb:oFt ops ls is=true:=by kernel_rfl):J n X N w0 L D tt CC (zE P ops K (Sm Mv) (oIn is f) ls):=⟨λa w F H xq h1 h2=>oAy is F e hb (λa' F'=>kt.h a' w F' H xq h1 h2)⟩
theorem jE (ii:Nat) {oi} (hi:ops[ii]?=some oi) (kt:J n X N w0 L D tt CC (wpList P ops (Exit.then (λa' w'=>(∃ D',Sep X N w0 w' D')/\zE P ops K (Sm N) f (ls.setIfInBounds ii true) a' w') QF) [oi])) (hr:Region.ready .any ops ls=[ii]:=by kernel_rfl):J n X N w0 L D tt CC (zE P ops K (Sm N) (f+1) ls):=⟨λa w F H xq h1 h2=>xE H ii hi hr (kt.h a w F H xq h1 h2)⟩
theorem jEt (th:∀ {w},Sep X' N' w1 w D->Sep X N w0 w D0) (ii:Nat) {oi} (hi:ops[ii]?=some oi) (kt:J n X' N' w1 L D tt CC (wpList P ops (Exit.then (λa' w'=>(∃ D',Sep X N w0 w' D')/\zE P ops K (Sm N) f (ls.setIfInBounds ii true) a' w') QF) [oi])) (hr:Region.ready .any ops ls=[ii]:=by kernel_rfl):J n X' N' w1 L D tt CC (zE P ops K (Sm N) (f+1) ls):=⟨λa w F H xq h1 h2=>xE (th H) ii hi hr (kt.h a w F H xq h1 h2)⟩
theorem jF9 {Kr} (ii:Nat) {oi} (hi:ops[ii]?=some oi) (kt:J n X N w0 L D tt CC (wpList P ops (Exit.then (zE P ops K Kr f (ls.setIfInBounds ii true)) QF) [oi])) (hr:Region.ready .any ops ls=[ii]:=by kernel_rfl) (hF:xQs ops ii=true:=by kernel_rfl):J n X N w0 L D tt CC (zE P ops K Kr (f+1) ls):=⟨λa w F H xq h1 h2=>b_e ii hi hr (rP (λe a w q=>by cases e<;>first | exact q | exact⟨.inr hF,q⟩) (kt.h a w F H xq h1 h2))⟩
theorem qT (kt:J n X N w0 L D tt CC K):J n X N w0 L D tt CC (wpList P ops (Exit.then (λa' w'=>(∃ D',Sep X N w0 w' D')/\K a' w') QF) []):=⟨λa w F H xq h1 h2=>⟨⟨_,H⟩,kt.h a w F H xq h1 h2⟩⟩
theorem xHq (th:∀ {w},Sep X' N' w1 w D->Sep X N w0 w D0) (kt:J n X' N' w1 L D tt CC K):J n X' N' w1 L D tt CC (wpList P ops (Exit.then (λa' w'=>(∃ D',Sep X N w0 w' D')/\K a' w') QF) []):=⟨λa w F H xq h1 h2=>⟨⟨_,th H⟩,kt.h a w F H xq h1 h2⟩⟩
theorem dV (th:∀ {w},Sep X' N' w1 w D->Sep X N w0 w D0) (i1 i2:Nat) {o1 o2} (qa:ops[i1]?=some o1) (qc:ops[i2]?=some o2) (k1:J n X' N' w1 L D tt CC (wpList P ops (Exit.then (λa' w'=>(∃ D',Sep X N w0 w' D')/\zE P ops K (Sm N) f (ls.setIfInBounds i1 true) a' w') QF) [o1])) (k2:J n X' N' w1 L D tt CC (wpList P ops (Exit.then (λa' w'=>(∃ D',Sep X N w0 w' D')/\zE P ops K (Sm N) f (ls.setIfInBounds i2 true) a' w') QF) [o2])) (hr:Region.ready .any ops ls=[i1,i2]:=by kernel_rfl):J n X' N' w1 L D tt CC (zE P ops K (Sm N) (f+1) ls):=⟨λa w F H xq h1 h2=>oIl [i1,i2] hr vK ⟨⟨_,qa,xEs (th H) (k1.h a w F H xq h1 h2)⟩,⟨_,qc,xEs (th H) (k2.h a w F H xq h1 h2)⟩,trivial⟩⟩
theorem xKp (th:∀ {w},Sep X' N' w1 w D->Sep X N w0 w D0) (i1 i2 i3:Nat) {o1 o2 o3} (qa:ops[i1]?=some o1) (qc:ops[i2]?=some o2) (qd:ops[i3]?=some o3) (k1:J n X' N' w1 L D tt CC (wpList P ops (Exit.then (λa' w'=>(∃ D',Sep X N w0 w' D')/\zE P ops K (Sm N) f (ls.setIfInBounds i1 true) a' w') QF) [o1])) (k2:J n X' N' w1 L D tt CC (wpList P ops (Exit.then (λa' w'=>(∃ D',Sep X N w0 w' D')/\zE P ops K (Sm N) f (ls.setIfInBounds i2 true) a' w') QF) [o2])) (k3:J n X' N' w1 L D tt CC (wpList P ops (Exit.then (λa' w'=>(∃ D',Sep X N w0 w' D')/\zE P ops K (Sm N) f (ls.setIfInBounds i3 true) a' w') QF) [o3])) (hr:Region.ready .any ops ls=[i1,i2,i3]:=by kernel_rfl):J n X' N' w1 L D tt CC (zE P ops K (Sm N) (f+1) ls):=⟨λa w F H xq h1 h2=>oIl [i1,i2,i3] hr vK ⟨⟨_,qa,xEs (th H) (k1.h a w F H xq h1 h2)⟩,⟨_,qc,xEs (th H) (k2.h a w F H xq h1 h2)⟩,⟨_,qd,xEs (th H) (k3.h a w F H xq h1 h2)⟩,trivial⟩⟩
theorem oMc (th:∀ {w},Sep X' N' w1 w D->Sep X N w0 w D0) (i1 i2 i3 i4:Nat) {o1 o2 o3 o4} (qa:ops[i1]?=some o1) (qc:ops[i2]?=some o2) (qd:ops[i3]?=some o3) (qe:ops[i4]?=some o4) (k1:J n X' N' w1 L D tt CC (wpList P ops (Exit.then (λa' w'=>(∃ D',Sep X N w0 w' D')/\zE P ops K (Sm N) f (ls.setIfInBounds i1 true) a' w') QF) [o1])) (k2:J n X' N' w1 L D tt CC (wpList P ops (Exit.then (λa' w'=>(∃ D',Sep X N w0 w' D')/\zE P ops K (Sm N) f (ls.setIfInBounds i2 true) a' w') QF) [o2])) (k3:J n X' N' w1 L D tt CC (wpList P ops (Exit.then (λa' w'=>(∃ D',Sep X N w0 w' D')/\zE P ops K (Sm N) f (ls.setIfInBounds i3 true) a' w') QF) [o3])) (k4:J n X' N' w1 L D tt CC (wpList P ops (Exit.then (λa' w'=>(∃ D',Sep X N w0 w' D')/\zE P ops K (Sm N) f (ls.setIfInBounds i4 true) a' w') QF) [o4])) (hr:Region.ready .any ops ls=[i1,i2,i3,i4]:=by kernel_rfl):J n X' N' w1 L D tt CC (zE P ops K (Sm N) (f+1) ls):=⟨λa w F H xq h1 h2=>oIl [i1,i2,i3,i4] hr vK ⟨⟨_,qa,xEs (th H) (k1.h a w F H xq h1 h2)⟩,⟨_,qc,xEs (th H) (k2.h a w F H xq h1 h2)⟩,⟨_,qd,xEs (th H) (k3.h a w F H xq h1 h2)⟩,⟨_,qe,xEs (th H) (k4.h a w F H xq h1 h2)⟩,trivial⟩⟩
def bi (n m:Nat):Array Bool:=((List.range n).map (Nat.testBit m ·)).toArray
theorem jdp {f f' ls ls0} (I:Tl (List (Nat×Vl)) (List As)) (h:I.all λS E=>J n X N w0 S E tt CC (zE P ops K (Sm M) f ls)) (k:(∀ {L D ls'},(I.any λS E=>Ls L S E D)->(hl:ls'=ls:=by kernel_rfl)->J n X N w0 L D tt CC (zE P ops K (Sm M) f ls'))->J n X N w0 L D tt CC (zE P ops K (Sm M) f' ls0)):J n X N w0 L D tt CC (zE P ops K (Sm M) f' ls0):= k (λ{L D ls'} hi hl=>⟨λa w F H xq h1 h2=>hl ▸ hi.go h (λS E hs hJ=>hJ.h a w (F.sub hs.2) (hs.1 ▸ H) xq h1 h2)⟩)
theorem Sep.gt {f:List As->List As} {w':Wd} (H:Sep X N w0 w D) (S:Sep [] M w w' (f [])) (hf:∀ D,f D=f []++D) (hs:Ns N (f [])):Sep X N w0 w' (f D):=by
 rw[hf D];exact H.ret S hs.all
theorem Gt.gv {I e w'} (h:Gt M w X I e w'):Gv (λv w'=>I.any λu h=>v=u/\Sep X M w w' (h [])/\∀ D,h D=h []++D) e w':=by
 cases e with
 | returned v=>exact⟨v,rfl,h.map (λu f h=>⟨by injection h.1,h.2⟩)⟩
 | _=>obtain⟨x,y,h⟩:=h.some;exact nomatch h.1
theorem jk {xs:List Operand} {at':Array Ty} {vs:List Vl} {M:Wd->Nat->Prop} {I:Tl Vl (List As->List As)} (cl:∀ {w},Sep X N w0 w D->Calls P fi vs.toArray w (Gt (M w) w [] I)) (kt:I.all λv h=>J n X N w0 ((d,v)::L) (h D) tt CC (wpList P ops Q rest)) (hc:vR ops n L g d=true:=by rfl) (e:evs L xs=some vs:=by rfl) (hs:I.all λv h=>Ns N (h []):=by repeat (first | exact trivial | refine⟨n0,?_⟩ | refine⟨n1,?_⟩ | intro)) (hf:okF P fi=true:=by kernel_rfl):J n X N w0 L D tt CC (wpList P ops Q (⟨some d,.call ⟨.value (.func fi),xs.toArray,at'⟩,ty,pos,af,g⟩::rest)):=⟨λa w F H xq h1 h2=>oG F hc (okf hf) e ((cl H).mono (λe w' h=>h.gv)) (λa' v w' hv F'=>hv.go (hs.and kt) (λu f hu hj=>by
 obtain⟨rfl,S,qa⟩:=hu
 exact hj.2.h a' w' F' (H.gt S qa hj.1) xq h1 h2))⟩
theorem jkV {c:Operand} {lb:List Vl} {xs:List Operand} {at':Array Ty} {vs:List Vl} {M:Wd->Nat->Prop} {I:Tl Vl (List As->List As)} (hf:∀ args w,(callFunc fi args).run P w= .ok (.enter fi args) w) (hh:ev L c=some (.func (.func fi) #[] lb.toArray)/\evs L xs=some vs) (cl:∀ {w},Sep X N w0 w D->Calls P fi (vs++lb).toArray w (Gt (M w) w [] I)) (kt:I.all λv h=>J n X N w0 ((d,v)::L) (h D) tt CC (wpList P ops Q rest)) (hc:vR ops n L g d=true:=by rfl) (hs:I.all λv h=>Ns N (h []):=by repeat (first | exact trivial | refine⟨n0,?_⟩ | refine⟨n1,?_⟩ | intro)):J n X N w0 L D tt CC (wpList P ops Q (⟨some d,.call ⟨.value c,xs.toArray,at'⟩,ty,pos,af,g⟩::rest)):=⟨λa w F H xq h1 h2=>oGV F hc hh.1 hf hh.2 ((cl H).mono (λe w' h=>h.gv)) (λa' v w' hv F'=>hv.go (hs.and kt) (λu f hu hj=>by
 obtain⟨rfl,S,qa⟩:=hu
 exact hj.2.h a' w' F' (H.gt S qa hj.1) xq h1 h2))⟩
def Tl.le {α β:Type}:Tl α β->Tl α β->Prop | .ex (γ:=γ) f,.ex (γ:=δ) g=>∃ h:γ=δ,∀ b,(f b).le (g (h ▸ b)) | .fa p i,.fa q j=>(p->q)/\i.le j | .st x y,.st x' y'=>x=x'/\y=y' | _,_=>False
theorem Tl.any.le {α β K}:∀ {i j:Tl α β},i.any K->i.le j->j.any K
 | .ex f,.ex g,⟨b,h⟩,⟨e,l⟩=>by subst e;exact⟨b,Tl.any.le h (l b)⟩
 | .fa _ _,.fa _ _,⟨p,h⟩,⟨l,m⟩=>⟨l p,Tl.any.le h m⟩
 | .st _ _,.st _ _,h,l=>by obtain⟨rfl,rfl⟩:=l;exact h
theorem jkB {xs:List Operand} {at':Array Ty} {vs:List Vl} {I:Wd->Tl Vl (List As->List As)} (cl:∀ {w},Sep X N w0 w D->Calls P fi vs.toArray w (Gt N w [] (I w))) (kt:(I w0).all λv h=>J n X N w0 ((d,v)::L) (h D) tt CC (wpList P ops Q rest)) (hc:vR ops n L g d=true:=by rfl) (e:evs L xs=some vs:=by rfl) (hs:(I w0).all λv h=>Ns N (h []):=by repeat (first | exact trivial | refine⟨n0,?_⟩ | refine⟨n1,?_⟩ | intro)) (hd:∀ {w},Sep X N w0 w D->(I w).le (I w0):=by intro _ H;repeat (first | exact⟨rfl,rfl⟩ | refine⟨rfl,λ_=>?_⟩ | refine⟨λh=>H.dn h,?_⟩ | refine⟨id,?_⟩)) (hf:okF P fi=true:=by kernel_rfl):J n X N w0 L D tt CC (wpList P ops Q (⟨some d,.call ⟨.value (.func fi),xs.toArray,at'⟩,ty,pos,af,g⟩::rest)):=⟨λa w F H xq h1 h2=>oG F hc (okf hf) e ((cl H).mono (λe w' h=>h.gv)) (λa' v w' hv F'=>(hv.le (hd H)).go (hs.and kt) (λu f hu hj=>by
 obtain⟨rfl,S,qa⟩:=hu
 exact hj.2.h a' w' F' (H.gt S qa hj.1) xq h1 h2))⟩
class Spl (m:Nat) (D:List As) (K E:outParam (List As)):Prop where
  h:D=K++E
instance {D:List As}:Spl 0 D [] D:=⟨rfl⟩
instance {m:Nat} {A:As} {D K E:List As} [h:Spl m D K E]:Spl (m+1) (A::D) (A::K) E:=⟨by rw[h.h,List.cons_append]⟩
theorem jko (m:Nat) {xs} {at'} {vs} {Kd E} {I} [hm:Spl m D Kd E] (cl:∀ {w X1},Sep X1 N w w Kd->Sep X N w0 w D->Calls P fi vs.toArray w (Gt N w X1 I)) (kt:I.all λv h=>J n X N w0 ((d,v)::L) (h E) tt CC (wpList P ops Q rest)) (hc:vR ops n L g d=true:=by rfl) (e:evs L xs=some vs:=by rfl) (hf:okF P fi=true:=by kernel_rfl):J n X N w0 L D tt CC (wpList P ops Q (⟨some d,.call ⟨.value (.func fi),xs.toArray,at'⟩,ty,pos,af,g⟩::rest)):=⟨λa w F H xq h1 h2=>by
 obtain⟨X1,S1,bk⟩:=Sep.lend (K:=Kd) (L:=E) (hm.h ▸ H)
 exact oG F hc (okf hf) e ((cl S1 H).mono (λe w' h=>h.gv)) (λa' v w' hv F'=>hv.go kt (λu f hu hj=>by
  obtain⟨rfl,S,qa⟩:=hu
  exact hj.h a' w' F' (by rw[qa E];exact bk S) xq h1 h2))⟩
theorem jt {t'} (e:tt=t') (kt:J n X N w0 L D t' CC G):J n X N w0 L D tt CC G:=e ▸ kt
theorem jig {cc b x y} (ht:b=true->J n X N w0 L D tt CC (x.wp P Q)) (hf:b=false->J n X N w0 L D tt CC (y.wp P Q)) (e:ev L cc=some (.bool b):=by rfl):J n X N w0 L D tt CC ((Code.cond cc x y).wp P Q):=⟨λa w F H r h1 h2=>by
 cases b with
 | true=>exact oCe F e ((ht rfl).h a w F H r h1 h2)
 | false=>exact oAs F e ((hf rfl).h a w F H r h1 h2)⟩
theorem jvC (ii:Nat) {α:Type} {sz:Nat} {R:ER α} [hR:FrC sz R] {t e:Ty} {v:Vl} {l r:List α} {i j:Int} {lo hi:Option Operand} (qa:ops[ii]?=some ⟨some d,.slice t x lo hi none,ty,pos,af,g⟩) [ht:Ug P t (.slice e)] [qc:Sz P e sz] (h:Bo M w1 (Sl sz R) v l) (hs:sl l i j=some r) (kt:∀ v',Bo M w1 (Sl sz R) v' r->J n X N w0 ((d,v')::L) D tt CC (zE P ops K (Sm Mv) f (ls.setIfInBounds ii true))) (hc:vR ops n L g d=true:=by rfl) (he:ev L x=some v:=by rfl) (qd:(match (generalizing:=false) lo with | some y=>ev L y=some (.int .i64 i) | none=>i=0):=by rfl) (qe:(match (generalizing:=false) hi with | some y=>ev L y=some (.int .i64 j) | none=>j=l.length):=by rfl) (hb:bqc ops ls ii true=true:=by kernel_rfl):J n X N w0 L D tt CC (zE P ops K (Sm Mv) (f+1) ls):=⟨λa w F H xq h1 h2=>bq hb qa (vC ht.h qc.h F hc he qd qe h hs (λa' v' hv F'=>(kt v' hv).h a' w F' H xq h1 h2))⟩
theorem xUt.of_gt {v e w' h} (hg:Gt M w [] (.st v h) e w'):xUt v w e w':=⟨hg.1,hg.2.1.bl⟩
theorem jqk {xs:List Operand} {at':Array Ty} {vs:List Vl} {v:Vl} {h:List As->List As} {M:Wd->Nat->Prop} (cl:∀ {w},Sep X N w0 w D->Calls P fi vs.toArray w (Gt (M w) w [] (.st v h))) (kt:J n X N w0 ((d,v)::L) D tt CC (Gq P ops X N w0 D K rest)) (hc:vR ops n L g d=true:=by rfl) (e:evs L xs=some vs:=by rfl) (hf:okF P fi=true:=by kernel_rfl):J n X N w0 L D tt CC (Gq P ops X N w0 D K (⟨some d,.call ⟨.value (.func fi),xs.toArray,at'⟩,ty,pos,af,g⟩::rest)):=⟨λa w F H xq h1 h2=>oCa F hc (okf hf) e (λw w' h l=>l.through h) (λw' l=>(cl (H.go l)).mono (λe w'' h=>xUt.of_gt h)) (λa' F'=>kt.h a' w F' H xq h1 h2)⟩
theorem jqkI {xs:List Operand} {at':Array Ty} {vs:List Vl} {v:Vl} {p:Prop} {h:List As->List As} {M:Wd->Nat->Prop} (hp:p) (cl:∀ {w},Sep X N w0 w D->Calls P fi vs.toArray w (Gt (M w) w [] (.fa p (.st v h)))) (kt:J n X N w0 ((d,v)::L) D tt CC (Gq P ops X N w0 D K rest)) (hc:vR ops n L g d=true:=by rfl) (e:evs L xs=some vs:=by rfl) (hf:okF P fi=true:=by kernel_rfl):J n X N w0 L D tt CC (Gq P ops X N w0 D K (⟨some d,.call ⟨.value (.func fi),xs.toArray,at'⟩,ty,pos,af,g⟩::rest)):=⟨λa w F H xq h1 h2=>oCa F hc (okf hf) e (λw w' h l=>l.through h) (λw' l=>(cl (H.go l)).mono (λe w'' h=>xUt.of_gt h.2)) (λa' F'=>kt.h a' w F' H xq h1 h2)⟩
theorem xSk {xs:List Operand} {at':Array Ty} {vs:List Vl} {v:Vl} {p:Prop} {h:List As->List As} {M:Wd->Nat->Prop} (cl:∀ {w},Sep X N w0 w D->Calls P fi vs.toArray w (Gt (M w) w [] (.fa p (.st v h)))) (kt:p->J n X N w0 ((d,v)::L) D tt CC (Gq P ops X N w0 D K rest)) (hc:vR ops n L g d=true:=by rfl) (e:evs L xs=some vs:=by rfl) (hf:okF P fi=true:=by kernel_rfl):J n X N w0 L D tt CC (Gq P ops X N w0 D K (⟨some d,.call ⟨.value (.func fi),xs.toArray,at'⟩,ty,pos,af,g⟩::rest)):=⟨λa w F H xq h1 h2=>
 let ⟨_,_,hh⟩:=Calls.some (cl H);(jqkI hh.1 cl (kt hh.1) hc e hf).h a w F H xq h1 h2⟩
theorem oJq {α:Type} {sz:Nat} {R:ER α} {t:Ty} {v:Vl} {l:List α} {e:Ty} [ht:Ug P t (.slice e)] (h:∀ {w},Sep X N w0 w D->Bo (All w) w (Sl sz R) v l) (kt:xM (l.length:Int)->J n X N w0 ((d,.int .i64 l.length)::L) D tt CC (Gq P ops X N w0 D K rest)) (hc:vR ops n L g d=true:=by rfl) (he:ev L x=some v:=by rfl):J n X N w0 L D tt CC (Gq P ops X N w0 D K (⟨some d,.call ⟨.builtin .len,#[x],#[t]⟩,ty,pos,af,g⟩::rest)):=⟨λa w F H xq h1 h2=>qL ht.h F hc he (h H) (λa' i F'=>(kt i).h a' w F' H xq h1 h2)⟩
theorem nO {α:Type} {sz:Nat} {R:ER α} {t:Ty} {v:Vl} {l:List α} {e:Ty} [ht:Ug P t (.slice e)] (h:∀ {w},Sep X N w0 w D->Bo (All w) w (Sl sz R) v l) (kt:xM (l.length:Int)->J n X N w0 ((d,.int .i64 l.length)::L) D tt CC (wpList P ops Q rest)) (hc:vR ops n L g d=true:=by rfl) (he:ev L x=some v:=by rfl):J n X N w0 L D tt CC (wpList P ops Q (⟨some d,.call ⟨.builtin .len,#[x],#[t]⟩,ty,pos,af,g⟩::rest)):=⟨λa w F H xq h1 h2=>oL ht.h F hc he (h H) (λa' i F'=>(kt i).h a' w F' H xq h1 h2)⟩
theorem jz1 {e:ρ} {I:ρ->Tl Vl (List As->List As)} {v1:Vl} (h1:Rs P n X N w0 L [] r1 v1) (h:(I e).any λv f=>Lv v v1 f []) (hr:fn.results = #[r1]:=by rfl):J n X N w0 L D (some e) (Cq I N w0 X R) (bodyPost P fn R .ret):=js [] rfl (j1 h1 h hr)
theorem qJ {e:ρ} {I:ρ->Tl Vl (List As->List As)} {v1:Vl} (h:(I e).any λv f=>Lv v v1 f []) (hr:fn.results = #[r1]:=by rfl) (h1:Rs P n X N w0 L [] r1 v1:=by exact rt rfl):J n X N w0 L D (some e) (Cq I N w0 X R) (bodyPost P fn R .ret):=js [] rfl (j1 h1 h hr)
theorem jno:J n X N w0 L D (none:Option ρ) CC G:=⟨λ_ _ _ _ _ h1 _=>nomatch h1⟩
theorem jev (i:Nat) {v u} (hv:v=u) (h:J n X N w0 ((i,u)::L) D tt CC G) (e:sC L i=some v:=by rfl):J n X N w0 L D tt CC G:=⟨λa w F=>h.h a w (F.eq e hv)⟩
theorem cN (i:Nat) {tm b sz} {T T'} {cs} [qa:Ag P T true] [hsz:Sz P T sz] (hh:sC L tm=some (.pointer (some ⟨b,0,none⟩))/\D[i]?=some (bx b cs T')) (hl:cs.length=sz:=by rfl):Rs P n X N w0 L D (.cell tm T) (.agg cs.toArray):=λa w F H=>oGr F qa.h (λw=>by rw[Fc,hl];exact hsz.h w) hh.1 (H.b i hh.2)
theorem jqbK {t b o v cs T} [hag:Ag P t false] (hK:Bk N w0 b cs T) (hh:ev L x=some (.pointer (some ⟨b,o,none⟩))/\cs[o]?=some v) (kt:J n X N w0 ((d,v)::L) D tt CC (Gq P ops X N w0 D K rest)) (hc:vR ops n L g d=true:=by rfl):J n X N w0 L D tt CC (Gq P ops X N w0 D K (⟨some d,.load t x,ty,pos,af,g⟩::rest)):=⟨λa w F H xq h1 h2=>qB hag.h F hc hh.1 (λw l=>hK.o (H.q w l)) hh.2 (λa' F'=>kt.h a' w F' H xq h1 h2)⟩
theorem j1m {e:ρ} {I:ρ->Tl Vl (List As->List As)} {v1:Vl} (th:∀ {w},Sep X N w0 w D->Sep X N w0 w D') (h1:Rs P n X N w0 L D r1 v1) (h:(I e).any λv f=>Lv v v1 f D') (hr:fn.results = #[r1]:=by rfl):J n X N w0 L D (some e) (Cq I N w0 X R) (bodyPost P fn R .ret):=⟨λa w F H x hx hc=>by
 cases hx
 exact xPw F hr (h1 a w F H) (hc _ _ (h.map (λv f h=>⟨congrArg _ h.1.symm,by rw[h.2,Ch];exact th H,λE=>by rw[h.2,h.2,Ch]⟩)))⟩
theorem mA {e:ρ} {I:ρ->Tl Vl (List As->List As)} {r2:ResultVar} {v1 v2:Vl} (th:∀ {w},Sep X N w0 w D->Sep X N w0 w D') (h1:Rs P n X N w0 L D r1 v1) (h2:Rs P n X N w0 L D r2 v2) (h:(I e).any λv f=>Lv v (.tuple #[v1,v2]) f D') (hr:fn.results = #[r1,r2]:=by rfl):J n X N w0 L D (some e) (Cq I N w0 X R) (bodyPost P fn R .ret):=⟨λa w F H x hx hc=>by
 cases hx
 exact xYw F hr (h1 a w F H) (h2 a w F H) (hc _ _ (h.map (λv f h=>⟨congrArg _ h.1.symm,by rw[h.2,Ch];exact th H,λE=>by rw[h.2,h.2,Ch]⟩)))⟩
theorem j3m {e:ρ} {I:ρ->Tl Vl (List As->List As)} {r2 r3:ResultVar} {v1 v2 v3:Vl} (th:∀ {w},Sep X N w0 w D->Sep X N w0 w D') (h1:Rs P n X N w0 L D r1 v1) (h2:Rs P n X N w0 L D r2 v2) (h3:Rs P n X N w0 L D r3 v3) (h:(I e).any λv f=>Lv v (.tuple #[v1,v2,v3]) f D') (hr:fn.results = #[r1,r2,r3]:=by rfl):J n X N w0 L D (some e) (Cq I N w0 X R) (bodyPost P fn R .ret):=⟨λa w F H x hx hc=>by
 cases hx
 exact xZb F hr (h1 a w F H) (h2 a w F H) (h3 a w F H) (hc _ _ (h.map (λv f h=>⟨congrArg _ h.1.symm,by rw[h.2,Ch];exact th H,λE=>by rw[h.2,h.2,Ch]⟩)))⟩
theorem jRI {t e z parts m} (l:List Int) [ht:Ug P t (.slice e)] [hsz:Sz P e 1] [hz:Zv P e z] (hI:∀ y∈l,xM y) (kt:∀ v,J n X N w0 ((d,v)::L) (rl 1 xF e v l::D) tt CC (wpList P ops Q rest)) (qa:z.cells.size=1:=by rfl) (hc:vR ops n L g d=true:=by rfl) (hp:parts.toList=(List.range' 0 (parts.toList.map Prod.snd).length).zip (parts.toList.map Prod.snd):=by rfl) (hm:m=l.length:=by rfl) (qc:Nat.ble l.length 1000=true:=by rfl) (qd:Nat.blt 0 l.length=true:=by rfl) (hx:evs L (parts.toList.map Prod.snd)=some (l.map (Value.int .i64)):=by rfl):J n X N w0 L D tt CC (wpList P ops Q (⟨some d,.buildSlice t m parts,ty,pos,af,g⟩::rest)):=⟨λa w F H xq h1 h2=>oRI ht.h hsz.h hz.h qa F hc hp hm qc qd hx hI H (λa' w' v H' F'=>(kt v).h a' w' F' H' xq h1 h2)⟩
theorem cM (kt:∀ w1 X1 N1,Sm N w0 w1->Rdg N1 w1 A->Lf N w0 N1 w1->((∀ {w':Wd} {K:List As},Sep X1 N1 w1 w' K->(∀ B∈K,∀ c,B.N c->N c)->Sep X N w0 w' (A::K))/\(∀ {w':Wd} {K:List As} {α:Type} {V:VR α} [VF V] {v:Vl} {x:α},Sep X1 N1 w1 w' (ro N1 (V:=V) v x::K)->(∀ B∈K,∀ c,B.N c->N c)->Sep X N w0 w' (ro N (V:=V) v x::K))/\(∀ c,N c->N1 c))->(∀ {f:(Nat->Prop)->As},Ab f->∀ {w':Wd} {K:List As},Sep X1 N1 w1 w' (f N1::K)->(∀ B∈K,∀ c,B.N c->N c)->Sep X N w0 w' (f N::K))->J n X1 N1 w1 L D tt CC G):J n X N w0 L (A::D) tt CC G:=⟨λa w F H xq h1 h2=>
 let ⟨X1,N1,g,e,H1,th,ab⟩:=H.fza
 (kt w X1 N1 H.sm g e th ab).h a w F H1 xq h1 h2⟩
theorem kY {G' X1 N1} (th:(∀ {w':Wd} {K:List As},Sep X1 N1 w1 w' K->(∀ B∈K,∀ c,B.N c->N c)->Sep X N w0 w' (A::K))/\G') (kt:J n X N w0 L (A::D) tt CC G) (hs:Ns N D:=by repeat (first | exact trivial | refine⟨n0,?_⟩ | refine⟨n1,?_⟩)):J n X1 N1 w1 L D tt CC G:=⟨λa w F H=>kt.h a w F (th.1 H hs.all)⟩
end
end
section
open Go.RowKit
section
variable {P:Program} {n:Nat} {X:List Nat} {N:Nat->Prop} {w0:Wd} {L:List (Nat×Vl)} {D:List As} {ρ:Type} {tt:Option ρ} {CC:ρ->Prop}
theorem wI {i1:Nat} {K2:Act->Wd->Prop} {Q3:Exit->Act->Wd->Prop} (h:J n X N w0 L D tt CC (K2)):J n X N w0 L D tt CC (Exit.inBlock i1 (Exit.then K2 Q3) (.exit i1)):=⟨λa w F H x p q=>(xUw (aU (h.h a w F H x p q)))⟩
theorem oGt {i1:Nat} {K2:Act->Wd->Prop} {Q3:Exit->Act->Wd->Prop} (h:J n X N w0 L D tt CC (K2)):J n X N w0 L D tt CC (Code.skip.wp P (Exit.inBlock i1 (Exit.then K2 Q3))):=⟨λa w F H x p q=>(gT (xNc (aU (h.h a w F H x p q))))⟩
theorem qM {i1:Nat} {Q5:Exit->Act->Wd->Prop} {i2:Nat} {l3:List Oper} {Q4:Exit->Act->Wd->Prop} (h:J n X N w0 L D tt CC (wpList P l3.toArray Q4 l3)):J n X N w0 L D tt CC (Code.skip.wp P (Exit.inBlock i1 (Exit.then ((Code.region i2 l3.toArray false).wp P Q4) Q5))):=⟨λa w F H x p q=>(gT (xNc (aU (bL (h.h a w F H x p q)))))⟩
theorem wA {i1:Nat} {Q6:Exit->Act->Wd->Prop} {c4:Code} {Q5:Exit->Act->Wd->Prop} {i2:Nat} {l3:List Oper} (h:J n X N w0 L D tt CC (wpList P l3.toArray (Exit.then (c4.wp P Q5) Q5) l3)):J n X N w0 L D tt CC (Code.skip.wp P (Exit.inBlock i1 (Exit.then ((Code.seq (Code.region i2 l3.toArray false) c4).wp P Q5) Q6))):=⟨λa w F H x p q=>(gT (xNc (aU (kQ (bL (h.h a w F H x p q))))))⟩
theorem oBu {i1:Nat} {Q7:Exit->Act->Wd->Prop} {c5:Code} {Q6:Exit->Act->Wd->Prop} {c4:Code} {i2:Nat} {l3:List Oper} (h:J n X N w0 L D tt CC (wpList P l3.toArray (Exit.then (c4.wp P (Exit.then (c5.wp P Q6) Q6)) (Exit.then (c5.wp P Q6) Q6)) l3)):J n X N w0 L D tt CC (Code.skip.wp P (Exit.inBlock i1 (Exit.then ((Code.seq (Code.seq (Code.region i2 l3.toArray false) c4) c5).wp P Q6) Q7))):=⟨λa w F H x p q=>(gT (xNc (aU (kQ (kQ (bL (h.h a w F H x p q)))))))⟩
theorem xUv {K1:Act->Wd->Prop} {Q2:Exit->Act->Wd->Prop} (h:J n X N w0 L D tt CC (K1)):J n X N w0 L D tt CC (Code.skip.wp P (Exit.then K1 Q2)):=⟨λa w F H x p q=>(gT (aU (h.h a w F H x p q)))⟩
theorem xLe {Q4:Exit->Act->Wd->Prop} {i1:Nat} {l2:List Oper} {Q3:Exit->Act->Wd->Prop} (h:J n X N w0 L D tt CC (wpList P l2.toArray Q3 l2)):J n X N w0 L D tt CC (Code.skip.wp P (Exit.then ((Code.region i1 l2.toArray false).wp P Q3) Q4)):=⟨λa w F H x p q=>(gT (aU (bL (h.h a w F H x p q))))⟩
theorem oHe {Q5:Exit->Act->Wd->Prop} {i1:Nat} {Q4:Exit->Act->Wd->Prop} {i2:Nat} {l3:List Oper} (h:J n X N w0 L D tt CC (wpList P l3.toArray (Exit.inBlock i1 Q4) l3)):J n X N w0 L D tt CC (Code.skip.wp P (Exit.then ((Code.block i1 (Code.region i2 l3.toArray false)).wp P Q4) Q5)):=⟨λa w F H x p q=>(gT (aU (pU (bL (h.h a w F H x p q)))))⟩
theorem xCs {Q6:Exit->Act->Wd->Prop} {i1:Nat} {Q5:Exit->Act->Wd->Prop} {c4:Code} {i2:Nat} {l3:List Oper} (h:J n X N w0 L D tt CC (wpList P l3.toArray (Exit.then (c4.wp P (Exit.inBlock i1 Q5)) (Exit.inBlock i1 Q5)) l3)):J n X N w0 L D tt CC (Code.skip.wp P (Exit.then ((Code.block i1 (Code.seq (Code.region i2 l3.toArray false) c4)).wp P Q5) Q6)):=⟨λa w F H x p q=>(gT (aU (pU (kQ (bL (h.h a w F H x p q))))))⟩
theorem oJ {Q4:Exit->Act->Wd->Prop} {c1:Code} {c2:Code} {Q3:Exit->Act->Wd->Prop} (h:J n X N w0 L D tt CC (c1.wp P (Exit.then (c2.wp P Q3) Q3))):J n X N w0 L D tt CC (Code.skip.wp P (Exit.then ((Code.seq c1 c2).wp P Q3) Q4)):=⟨λa w F H x p q=>(gT (aU (kQ (h.h a w F H x p q))))⟩
theorem qG {Q5:Exit->Act->Wd->Prop} {c3:Code} {Q4:Exit->Act->Wd->Prop} {i1:Nat} {l2:List Oper} (h:J n X N w0 L D tt CC (wpList P l2.toArray (Exit.then (c3.wp P Q4) Q4) l2)):J n X N w0 L D tt CC (Code.skip.wp P (Exit.then ((Code.seq (Code.region i1 l2.toArray false) c3).wp P Q4) Q5)):=⟨λa w F H x p q=>(gT (aU (kQ (bL (h.h a w F H x p q)))))⟩
theorem xZd {Q5:Exit->Act->Wd->Prop} {c3:Code} {Q4:Exit->Act->Wd->Prop} {i1:Nat} {c2:Code} (h:J n X N w0 L D tt CC (c2.wp P (Exit.inBlock i1 (Exit.then (c3.wp P Q4) Q4)))):J n X N w0 L D tt CC (Code.skip.wp P (Exit.then ((Code.seq (Code.block i1 c2) c3).wp P Q4) Q5)):=⟨λa w F H x p q=>(gT (aU (kQ (pU (h.h a w F H x p q)))))⟩
theorem xPm {Q6:Exit->Act->Wd->Prop} {c4:Code} {Q5:Exit->Act->Wd->Prop} {i1:Nat} {i2:Nat} {l3:List Oper} (h:J n X N w0 L D tt CC (wpList P l3.toArray (Exit.inBlock i1 (Exit.then (c4.wp P Q5) Q5)) l3)):J n X N w0 L D tt CC (Code.skip.wp P (Exit.then ((Code.seq (Code.block i1 (Code.region i2 l3.toArray false)) c4).wp P Q5) Q6)):=⟨λa w F H x p q=>(gT (aU (kQ (pU (bL (h.h a w F H x p q))))))⟩
theorem mB {Q7:Exit->Act->Wd->Prop} {c5:Code} {Q6:Exit->Act->Wd->Prop} {i1:Nat} {c4:Code} {i2:Nat} {l3:List Oper} (h:J n X N w0 L D tt CC (wpList P l3.toArray (Exit.then (c4.wp P (Exit.inBlock i1 (Exit.then (c5.wp P Q6) Q6))) (Exit.inBlock i1 (Exit.then (c5.wp P Q6) Q6))) l3)):J n X N w0 L D tt CC (Code.skip.wp P (Exit.then ((Code.seq (Code.block i1 (Code.seq (Code.region i2 l3.toArray false) c4)) c5).wp P Q6) Q7)):=⟨λa w F H x p q=>(gT (aU (kQ (pU (kQ (bL (h.h a w F H x p q)))))))⟩
theorem xLr {Q5:Exit->Act->Wd->Prop} {c3:Code} {Q4:Exit->Act->Wd->Prop} {c1:Code} {c2:Code} (h:J n X N w0 L D tt CC (c1.wp P (Exit.then (c2.wp P (Exit.then (c3.wp P Q4) Q4)) (Exit.then (c3.wp P Q4) Q4)))):J n X N w0 L D tt CC (Code.skip.wp P (Exit.then ((Code.seq (Code.seq c1 c2) c3).wp P Q4) Q5)):=⟨λa w F H x p q=>(gT (aU (kQ (kQ (h.h a w F H x p q)))))⟩
theorem qY {Q6:Exit->Act->Wd->Prop} {c4:Code} {Q5:Exit->Act->Wd->Prop} {c3:Code} {i1:Nat} {l2:List Oper} (h:J n X N w0 L D tt CC (wpList P l2.toArray (Exit.then (c3.wp P (Exit.then (c4.wp P Q5) Q5)) (Exit.then (c4.wp P Q5) Q5)) l2)):J n X N w0 L D tt CC (Code.skip.wp P (Exit.then ((Code.seq (Code.seq (Code.region i1 l2.toArray false) c3) c4).wp P Q5) Q6)):=⟨λa w F H x p q=>(gT (aU (kQ (kQ (bL (h.h a w F H x p q))))))⟩
theorem oBg {i1:Nat} {K2:Act->Wd->Prop} {Q3:Exit->Act->Wd->Prop} (h:J n X N w0 L D tt CC (K2)):J n X N w0 L D tt CC (Exit.inBlock i1 (Exit.then K2 Q3) .normal):=⟨λa w F H x p q=>(xNc (aU (h.h a w F H x p q)))⟩
theorem aK {i1:Nat} {Q5:Exit->Act->Wd->Prop} {i2:Nat} {l3:List Oper} {Q4:Exit->Act->Wd->Prop} (h:J n X N w0 L D tt CC (wpList P l3.toArray Q4 l3)):J n X N w0 L D tt CC (Exit.inBlock i1 (Exit.then ((Code.region i2 l3.toArray false).wp P Q4) Q5) .normal):=⟨λa w F H x p q=>(xNc (aU (bL (h.h a w F H x p q))))⟩
theorem eT {K1:Act->Wd->Prop} {Q2:Exit->Act->Wd->Prop} (h:J n X N w0 L D tt CC (Q2 .ret)):J n X N w0 L D tt CC (Exit.then K1 Q2 .ret):=⟨λa w F H x p q=>(uR (h.h a w F H x p q))⟩
theorem a_RR {K1:Act->Wd->Prop} {K2:Act->Wd->Prop} {Q3:Exit->Act->Wd->Prop} (h:J n X N w0 L D tt CC (Q3 .ret)):J n X N w0 L D tt CC (Exit.then K1 (Exit.then K2 Q3) .ret):=⟨λa w F H x p q=>(uR (uR (h.h a w F H x p q)))⟩
theorem xNv {o1:Array Oper} {i2:Nat} {K3:Act->Wd->Prop} {Q4:Exit->Act->Wd->Prop} (h:J n X N w0 L D tt CC (K3)):J n X N w0 L D tt CC (wpList P o1 (Exit.inBlock i2 (Exit.then K3 Q4)) []):=⟨λa w F H x p q=>(dM (xNc (aU (h.h a w F H x p q))))⟩
theorem dI {o1:Array Oper} {i2:Nat} {Q6:Exit->Act->Wd->Prop} {i3:Nat} {l4:List Oper} {Q5:Exit->Act->Wd->Prop} (h:J n X N w0 L D tt CC (wpList P l4.toArray Q5 l4)):J n X N w0 L D tt CC (wpList P o1 (Exit.inBlock i2 (Exit.then ((Code.region i3 l4.toArray false).wp P Q5) Q6)) []):=⟨λa w F H x p q=>(dM (xNc (aU (bL (h.h a w F H x p q)))))⟩
theorem aI {o1:Array Oper} {K2:Act->Wd->Prop} {Q3:Exit->Act->Wd->Prop} (h:J n X N w0 L D tt CC (K2)):J n X N w0 L D tt CC (wpList P o1 (Exit.then K2 Q3) []):=⟨λa w F H x p q=>(dM (aU (h.h a w F H x p q)))⟩
theorem eR {o1:Array Oper} {Q5:Exit->Act->Wd->Prop} {i2:Nat} {l3:List Oper} {Q4:Exit->Act->Wd->Prop} (h:J n X N w0 L D tt CC (wpList P l3.toArray Q4 l3)):J n X N w0 L D tt CC (wpList P o1 (Exit.then ((Code.region i2 l3.toArray false).wp P Q4) Q5) []):=⟨λa w F H x p q=>(dM (aU (bL (h.h a w F H x p q))))⟩
theorem xJu {o1:Array Oper} {Q7:Exit->Act->Wd->Prop} {i2:Nat} {Q6:Exit->Act->Wd->Prop} {c5:Code} {i3:Nat} {l4:List Oper} (h:J n X N w0 L D tt CC (wpList P l4.toArray (Exit.then (c5.wp P (Exit.inBlock i2 Q6)) (Exit.inBlock i2 Q6)) l4)):J n X N w0 L D tt CC (wpList P o1 (Exit.then ((Code.block i2 (Code.seq (Code.region i3 l4.toArray false) c5)).wp P Q6) Q7) []):=⟨λa w F H x p q=>(dM (aU (pU (kQ (bL (h.h a w F H x p q))))))⟩
theorem xAo {o1:Array Oper} {Q5:Exit->Act->Wd->Prop} {c2:Code} {c3:Code} {Q4:Exit->Act->Wd->Prop} (h:J n X N w0 L D tt CC (c2.wp P (Exit.then (c3.wp P Q4) Q4))):J n X N w0 L D tt CC (wpList P o1 (Exit.then ((Code.seq c2 c3).wp P Q4) Q5) []):=⟨λa w F H x p q=>(dM (aU (kQ (h.h a w F H x p q))))⟩
theorem qS {o1:Array Oper} {Q6:Exit->Act->Wd->Prop} {c4:Code} {Q5:Exit->Act->Wd->Prop} {i2:Nat} {l3:List Oper} (h:J n X N w0 L D tt CC (wpList P l3.toArray (Exit.then (c4.wp P Q5) Q5) l3)):J n X N w0 L D tt CC (wpList P o1 (Exit.then ((Code.seq (Code.region i2 l3.toArray false) c4).wp P Q5) Q6) []):=⟨λa w F H x p q=>(dM (aU (kQ (bL (h.h a w F H x p q)))))⟩
theorem oFg {o1:Array Oper} {Q7:Exit->Act->Wd->Prop} {c5:Code} {Q6:Exit->Act->Wd->Prop} {i2:Nat} {c3:Code} {c4:Code} (h:J n X N w0 L D tt CC (c3.wp P (Exit.then (c4.wp P (Exit.inBlock i2 (Exit.then (c5.wp P Q6) Q6))) (Exit.inBlock i2 (Exit.then (c5.wp P Q6) Q6))))):J n X N w0 L D tt CC (wpList P o1 (Exit.then ((Code.seq (Code.block i2 (Code.seq c3 c4)) c5).wp P Q6) Q7) []):=⟨λa w F H x p q=>(dM (aU (kQ (pU (kQ (h.h a w F H x p q))))))⟩
theorem xSh {o1:Array Oper} {Q8:Exit->Act->Wd->Prop} {c6:Code} {Q7:Exit->Act->Wd->Prop} {i2:Nat} {c5:Code} {i3:Nat} {l4:List Oper} (h:J n X N w0 L D tt CC (wpList P l4.toArray (Exit.then (c5.wp P (Exit.inBlock i2 (Exit.then (c6.wp P Q7) Q7))) (Exit.inBlock i2 (Exit.then (c6.wp P Q7) Q7))) l4)):J n X N w0 L D tt CC (wpList P o1 (Exit.then ((Code.seq (Code.block i2 (Code.seq (Code.region i3 l4.toArray false) c5)) c6).wp P Q7) Q8) []):=⟨λa w F H x p q=>(dM (aU (kQ (pU (kQ (bL (h.h a w F H x p q)))))))⟩
theorem gL {o1:Array Oper} {Q6:Exit->Act->Wd->Prop} {c4:Code} {Q5:Exit->Act->Wd->Prop} {c2:Code} {c3:Code} (h:J n X N w0 L D tt CC (c2.wp P (Exit.then (c3.wp P (Exit.then (c4.wp P Q5) Q5)) (Exit.then (c4.wp P Q5) Q5)))):J n X N w0 L D tt CC (wpList P o1 (Exit.then ((Code.seq (Code.seq c2 c3) c4).wp P Q5) Q6) []):=⟨λa w F H x p q=>(dM (aU (kQ (kQ (h.h a w F H x p q)))))⟩
theorem cY {o1:Array Oper} {Q7:Exit->Act->Wd->Prop} {c5:Code} {Q6:Exit->Act->Wd->Prop} {c4:Code} {i2:Nat} {l3:List Oper} (h:J n X N w0 L D tt CC (wpList P l3.toArray (Exit.then (c4.wp P (Exit.then (c5.wp P Q6) Q6)) (Exit.then (c5.wp P Q6) Q6)) l3)):J n X N w0 L D tt CC (wpList P o1 (Exit.then ((Code.seq (Code.seq (Code.region i2 l3.toArray false) c4) c5).wp P Q6) Q7) []):=⟨λa w F H x p q=>(dM (aU (kQ (kQ (bL (h.h a w F H x p q))))))⟩
theorem lU {o1:Array Oper} {Q3:Exit->Act->Wd->Prop} {Q2:Exit->Act->Wd->Prop} (h:J n X N w0 L D tt CC (Q2 .ret)):J n X N w0 L D tt CC (wpList P o1 (Exit.then (Code.ret.wp P Q2) Q3) []):=⟨λa w F H x p q=>(dM (aU (uZ (h.h a w F H x p q))))⟩
theorem xUq {o1:Array Oper} {Q4:Exit->Act->Wd->Prop} {K2:Act->Wd->Prop} {Q3:Exit->Act->Wd->Prop} (h:J n X N w0 L D tt CC (Q3 .ret)):J n X N w0 L D tt CC (wpList P o1 (Exit.then (Code.ret.wp P (Exit.then K2 Q3)) Q4) []):=⟨λa w F H x p q=>(dM (aU (uZ (uR (h.h a w F H x p q)))))⟩
theorem xJn {o1:Array Oper} {Q5:Exit->Act->Wd->Prop} {K2:Act->Wd->Prop} {K3:Act->Wd->Prop} {Q4:Exit->Act->Wd->Prop} (h:J n X N w0 L D tt CC (Q4 .ret)):J n X N w0 L D tt CC (wpList P o1 (Exit.then (Code.ret.wp P (Exit.then K2 (Exit.then K3 Q4))) Q5) []):=⟨λa w F H x p q=>(dM (aU (uZ (uR (uR (h.h a w F H x p q))))))⟩
theorem xMk {o1:Array Oper} {Q6:Exit->Act->Wd->Prop} {K2:Act->Wd->Prop} {i3:Nat} {K4:Act->Wd->Prop} {Q5:Exit->Act->Wd->Prop} (h:J n X N w0 L D tt CC (Q5 .ret)):J n X N w0 L D tt CC (wpList P o1 (Exit.then (Code.ret.wp P (Exit.then K2 (Exit.inBlock i3 (Exit.then K4 Q5)))) Q6) []):=⟨λa w F H x p q=>(dM (aU (uZ (uR (xRa (uR (h.h a w F H x p q)))))))⟩
theorem aZ {o1:Array Oper} {Q7:Exit->Act->Wd->Prop} {K2:Act->Wd->Prop} {i3:Nat} {K4:Act->Wd->Prop} {K5:Act->Wd->Prop} {Q6:Exit->Act->Wd->Prop} (h:J n X N w0 L D tt CC (Q6 .ret)):J n X N w0 L D tt CC (wpList P o1 (Exit.then (Code.ret.wp P (Exit.then K2 (Exit.inBlock i3 (Exit.then K4 (Exit.then K5 Q6))))) Q7) []):=⟨λa w F H x p q=>(dM (aU (uZ (uR (xRa (uR (uR (h.h a w F H x p q))))))))⟩
theorem oFx {o1:Array Oper} {Q5:Exit->Act->Wd->Prop} {i2:Nat} {K3:Act->Wd->Prop} {Q4:Exit->Act->Wd->Prop} (h:J n X N w0 L D tt CC (Q4 .ret)):J n X N w0 L D tt CC (wpList P o1 (Exit.then (Code.ret.wp P (Exit.inBlock i2 (Exit.then K3 Q4))) Q5) []):=⟨λa w F H x p q=>(dM (aU (uZ (xRa (uR (h.h a w F H x p q))))))⟩
theorem xYf {o1:Array Oper} {Q6:Exit->Act->Wd->Prop} {i2:Nat} {K3:Act->Wd->Prop} {K4:Act->Wd->Prop} {Q5:Exit->Act->Wd->Prop} (h:J n X N w0 L D tt CC (Q5 .ret)):J n X N w0 L D tt CC (wpList P o1 (Exit.then (Code.ret.wp P (Exit.inBlock i2 (Exit.then K3 (Exit.then K4 Q5)))) Q6) []):=⟨λa w F H x p q=>(dM (aU (uZ (xRa (uR (uR (h.h a w F H x p q)))))))⟩
theorem zL {o1:Array Oper} {i2:Nat} {Q6:Exit->Act->Wd->Prop} {i3:Nat} {l4:List Oper} {Q5:Exit->Act->Wd->Prop} {L':List (Nat×Vl)} {l:List Oper} (k:Nat) (e:mX o1 n k L l=some (L',[])) (h:J n X N w0 L' D tt CC (wpList P l4.toArray Q5 l4)):J n X N w0 L D tt CC (wpList P o1 (Exit.inBlock i2 (Exit.then ((Code.region i3 l4.toArray false).wp P Q5) Q6)) l):=jA k e (dI h)
theorem oD {o1:Array Oper} {K2:Act->Wd->Prop} {Q3:Exit->Act->Wd->Prop} {L':List (Nat×Vl)} {l:List Oper} (k:Nat) (e:mX o1 n k L l=some (L',[])) (h:J n X N w0 L' D tt CC (K2)):J n X N w0 L D tt CC (wpList P o1 (Exit.then K2 Q3) l):=jA k e (aI h)
theorem xA {o1:Array Oper} {K2:Act->Wd->Prop} {Q3:Exit->Act->Wd->Prop} {L':List (Nat×Vl)} {l:List Oper} (e:mX o1 n 1 L l=some (L',[])) (h:J n X N w0 L' D tt CC (K2)):J n X N w0 L D tt CC (wpList P o1 (Exit.then K2 Q3) l):=jA 1 e (aI h)
theorem xFz {o1:Array Oper} {Q5:Exit->Act->Wd->Prop} {c2:Code} {c3:Code} {Q4:Exit->Act->Wd->Prop} {L':List (Nat×Vl)} {l:List Oper} (k:Nat) (e:mX o1 n k L l=some (L',[])) (h:J n X N w0 L' D tt CC (c2.wp P (Exit.then (c3.wp P Q4) Q4))):J n X N w0 L D tt CC (wpList P o1 (Exit.then ((Code.seq c2 c3).wp P Q4) Q5) l):=jA k e (xAo h)
theorem xR {o1:Array Oper} {Q5:Exit->Act->Wd->Prop} {c2:Code} {c3:Code} {Q4:Exit->Act->Wd->Prop} {L':List (Nat×Vl)} {l:List Oper} (e:mX o1 n 1 L l=some (L',[])) (h:J n X N w0 L' D tt CC (c2.wp P (Exit.then (c3.wp P Q4) Q4))):J n X N w0 L D tt CC (wpList P o1 (Exit.then ((Code.seq c2 c3).wp P Q4) Q5) l):=jA 1 e (xAo h)
theorem kW {o1:Array Oper} {Q6:Exit->Act->Wd->Prop} {c4:Code} {Q5:Exit->Act->Wd->Prop} {i2:Nat} {l3:List Oper} {L':List (Nat×Vl)} {l:List Oper} (k:Nat) (e:mX o1 n k L l=some (L',[])) (h:J n X N w0 L' D tt CC (wpList P l3.toArray (Exit.then (c4.wp P Q5) Q5) l3)):J n X N w0 L D tt CC (wpList P o1 (Exit.then ((Code.seq (Code.region i2 l3.toArray false) c4).wp P Q5) Q6) l):=jA k e (qS h)
theorem xK {o1:Array Oper} {Q6:Exit->Act->Wd->Prop} {c4:Code} {Q5:Exit->Act->Wd->Prop} {i2:Nat} {l3:List Oper} {L':List (Nat×Vl)} {l:List Oper} (e:mX o1 n 1 L l=some (L',[])) (h:J n X N w0 L' D tt CC (wpList P l3.toArray (Exit.then (c4.wp P Q5) Q5) l3)):J n X N w0 L D tt CC (wpList P o1 (Exit.then ((Code.seq (Code.region i2 l3.toArray false) c4).wp P Q5) Q6) l):=jA 1 e (qS h)
theorem fL {o1:Array Oper} {Q7:Exit->Act->Wd->Prop} {c5:Code} {Q6:Exit->Act->Wd->Prop} {c4:Code} {i2:Nat} {l3:List Oper} {L':List (Nat×Vl)} {l:List Oper} (k:Nat) (e:mX o1 n k L l=some (L',[])) (h:J n X N w0 L' D tt CC (wpList P l3.toArray (Exit.then (c4.wp P (Exit.then (c5.wp P Q6) Q6)) (Exit.then (c5.wp P Q6) Q6)) l3)):J n X N w0 L D tt CC (wpList P o1 (Exit.then ((Code.seq (Code.seq (Code.region i2 l3.toArray false) c4) c5).wp P Q6) Q7) l):=jA k e (cY h)
theorem xI {o1:Array Oper} {Q7:Exit->Act->Wd->Prop} {c5:Code} {Q6:Exit->Act->Wd->Prop} {c4:Code} {i2:Nat} {l3:List Oper} {L':List (Nat×Vl)} {l:List Oper} (e:mX o1 n 1 L l=some (L',[])) (h:J n X N w0 L' D tt CC (wpList P l3.toArray (Exit.then (c4.wp P (Exit.then (c5.wp P Q6) Q6)) (Exit.then (c5.wp P Q6) Q6)) l3)):J n X N w0 L D tt CC (wpList P o1 (Exit.then ((Code.seq (Code.seq (Code.region i2 l3.toArray false) c4) c5).wp P Q6) Q7) l):=jA 1 e (cY h)
theorem qZ {o1:Array Oper} {Q3:Exit->Act->Wd->Prop} {Q2:Exit->Act->Wd->Prop} {L':List (Nat×Vl)} {l:List Oper} (k:Nat) (e:mX o1 n k L l=some (L',[])) (h:J n X N w0 L' D tt CC (Q2 .ret)):J n X N w0 L D tt CC (wpList P o1 (Exit.then (Code.ret.wp P Q2) Q3) l):=jA k e (lU h)
theorem xX {o1:Array Oper} {Q3:Exit->Act->Wd->Prop} {Q2:Exit->Act->Wd->Prop} {L':List (Nat×Vl)} {l:List Oper} (e:mX o1 n 1 L l=some (L',[])) (h:J n X N w0 L' D tt CC (Q2 .ret)):J n X N w0 L D tt CC (wpList P o1 (Exit.then (Code.ret.wp P Q2) Q3) l):=jA 1 e (lU h)
theorem pC {o1:Array Oper} {Q4:Exit->Act->Wd->Prop} {K2:Act->Wd->Prop} {Q3:Exit->Act->Wd->Prop} {L':List (Nat×Vl)} {l:List Oper} (k:Nat) (e:mX o1 n k L l=some (L',[])) (h:J n X N w0 L' D tt CC (Q3 .ret)):J n X N w0 L D tt CC (wpList P o1 (Exit.then (Code.ret.wp P (Exit.then K2 Q3)) Q4) l):=jA k e (xUq h)
theorem xT {o1:Array Oper} {Q4:Exit->Act->Wd->Prop} {K2:Act->Wd->Prop} {Q3:Exit->Act->Wd->Prop} {L':List (Nat×Vl)} {l:List Oper} (e:mX o1 n 1 L l=some (L',[])) (h:J n X N w0 L' D tt CC (Q3 .ret)):J n X N w0 L D tt CC (wpList P o1 (Exit.then (Code.ret.wp P (Exit.then K2 Q3)) Q4) l):=jA 1 e (xUq h)
theorem bE {o1:Array Oper} {Q5:Exit->Act->Wd->Prop} {i2:Nat} {K3:Act->Wd->Prop} {Q4:Exit->Act->Wd->Prop} {L':List (Nat×Vl)} {l:List Oper} (k:Nat) (e:mX o1 n k L l=some (L',[])) (h:J n X N w0 L' D tt CC (Q4 .ret)):J n X N w0 L D tt CC (wpList P o1 (Exit.then (Code.ret.wp P (Exit.inBlock i2 (Exit.then K3 Q4))) Q5) l):=jA k e (oFx h)
theorem qA {o1:Array Oper} {Q6:Exit->Act->Wd->Prop} {i2:Nat} {K3:Act->Wd->Prop} {K4:Act->Wd->Prop} {Q5:Exit->Act->Wd->Prop} {L':List (Nat×Vl)} {l:List Oper} (k:Nat) (e:mX o1 n k L l=some (L',[])) (h:J n X N w0 L' D tt CC (Q5 .ret)):J n X N w0 L D tt CC (wpList P o1 (Exit.then (Code.ret.wp P (Exit.inBlock i2 (Exit.then K3 (Exit.then K4 Q5)))) Q6) l):=jA k e (xYf h)
theorem xYt {o1:Array Oper} {Q6:Exit->Act->Wd->Prop} {K3:Act->Wd->Prop} {i2:Nat} {K4:Act->Wd->Prop} {Q5:Exit->Act->Wd->Prop} (h:J n X N w0 L D tt CC (K4)):J n X N w0 L D tt CC (wpList P o1 (Exit.then ((Code.exit i2).wp P (Exit.then K3 (Exit.inBlock i2 (Exit.then K4 Q5)))) Q6) []):=⟨λa w F H x p q=>(dM (aU (xDw (xNa (xUw (aU (h.h a w F H x p q)))))))⟩
theorem iQ {i1:Nat} {l2:List Oper} {Q3:Exit->Act->Wd->Prop} (h:J n X N w0 L D tt CC (wpList P l2.toArray Q3 l2)):J n X N w0 L D tt CC ((Code.region i1 l2.toArray false).wp P Q3):=⟨λa w F H x p q=>(bL (h.h a w F H x p q))⟩
theorem zH {i1:Nat} {c2:Code} {Q3:Exit->Act->Wd->Prop} (h:J n X N w0 L D tt CC (c2.wp P (Exit.inBlock i1 Q3))):J n X N w0 L D tt CC ((Code.block i1 c2).wp P Q3):=⟨λa w F H x p q=>(pU (h.h a w F H x p q))⟩
theorem yP {i1:Nat} {Q4:Exit->Act->Wd->Prop} {i2:Nat} {l3:List Oper} (h:J n X N w0 L D tt CC (wpList P l3.toArray (Exit.inBlock i1 Q4) l3)):J n X N w0 L D tt CC ((Code.block i1 (Code.region i2 l3.toArray false)).wp P Q4):=⟨λa w F H x p q=>(pU (bL (h.h a w F H x p q)))⟩
theorem sJ {i1:Nat} {Q4:Exit->Act->Wd->Prop} {c2:Code} {c3:Code} (h:J n X N w0 L D tt CC (c2.wp P (Exit.then (c3.wp P (Exit.inBlock i1 Q4)) (Exit.inBlock i1 Q4)))):J n X N w0 L D tt CC ((Code.block i1 (Code.seq c2 c3)).wp P Q4):=⟨λa w F H x p q=>(pU (kQ (h.h a w F H x p q)))⟩
theorem qH {i1:Nat} {Q5:Exit->Act->Wd->Prop} {c4:Code} {i2:Nat} {l3:List Oper} (h:J n X N w0 L D tt CC (wpList P l3.toArray (Exit.then (c4.wp P (Exit.inBlock i1 Q5)) (Exit.inBlock i1 Q5)) l3)):J n X N w0 L D tt CC ((Code.block i1 (Code.seq (Code.region i2 l3.toArray false) c4)).wp P Q5):=⟨λa w F H x p q=>(pU (kQ (bL (h.h a w F H x p q))))⟩
theorem xPz {i1:Nat} {Q6:Exit->Act->Wd->Prop} {c5:Code} {c4:Code} {i2:Nat} {l3:List Oper} (h:J n X N w0 L D tt CC (wpList P l3.toArray (Exit.then (c4.wp P (Exit.then (c5.wp P (Exit.inBlock i1 Q6)) (Exit.inBlock i1 Q6))) (Exit.then (c5.wp P (Exit.inBlock i1 Q6)) (Exit.inBlock i1 Q6))) l3)):J n X N w0 L D tt CC ((Code.block i1 (Code.seq (Code.seq (Code.region i2 l3.toArray false) c4) c5)).wp P Q6):=⟨λa w F H x p q=>(pU (kQ (kQ (bL (h.h a w F H x p q)))))⟩
theorem dA {K1:Act->Wd->Prop} {Q2:Exit->Act->Wd->Prop} (h:J n X N w0 L D tt CC (K1)):J n X N w0 L D tt CC (Exit.then K1 Q2 .normal):=⟨λa w F H x p q=>(aU (h.h a w F H x p q))⟩
theorem xNl {Q4:Exit->Act->Wd->Prop} {i1:Nat} {l2:List Oper} {Q3:Exit->Act->Wd->Prop} (h:J n X N w0 L D tt CC (wpList P l2.toArray Q3 l2)):J n X N w0 L D tt CC (Exit.then ((Code.region i1 l2.toArray false).wp P Q3) Q4 .normal):=⟨λa w F H x p q=>(aU (bL (h.h a w F H x p q)))⟩
theorem xNh {Q4:Exit->Act->Wd->Prop} {c1:Code} {c2:Code} {Q3:Exit->Act->Wd->Prop} (h:J n X N w0 L D tt CC (c1.wp P (Exit.then (c2.wp P Q3) Q3))):J n X N w0 L D tt CC (Exit.then ((Code.seq c1 c2).wp P Q3) Q4 .normal):=⟨λa w F H x p q=>(aU (kQ (h.h a w F H x p q)))⟩
theorem oQ {Q5:Exit->Act->Wd->Prop} {c3:Code} {Q4:Exit->Act->Wd->Prop} {i1:Nat} {l2:List Oper} (h:J n X N w0 L D tt CC (wpList P l2.toArray (Exit.then (c3.wp P Q4) Q4) l2)):J n X N w0 L D tt CC (Exit.then ((Code.seq (Code.region i1 l2.toArray false) c3).wp P Q4) Q5 .normal):=⟨λa w F H x p q=>(aU (kQ (bL (h.h a w F H x p q))))⟩
theorem bX {Q6:Exit->Act->Wd->Prop} {c4:Code} {Q5:Exit->Act->Wd->Prop} {c3:Code} {i1:Nat} {l2:List Oper} (h:J n X N w0 L D tt CC (wpList P l2.toArray (Exit.then (c3.wp P (Exit.then (c4.wp P Q5) Q5)) (Exit.then (c4.wp P Q5) Q5)) l2)):J n X N w0 L D tt CC (Exit.then ((Code.seq (Code.seq (Code.region i1 l2.toArray false) c3) c4).wp P Q5) Q6 .normal):=⟨λa w F H x p q=>(aU (kQ (kQ (bL (h.h a w F H x p q)))))⟩
theorem lY {Q2:Exit->Act->Wd->Prop} {Q1:Exit->Act->Wd->Prop} (h:J n X N w0 L D tt CC (Q1 .ret)):J n X N w0 L D tt CC (Exit.then (Code.ret.wp P Q1) Q2 .normal):=⟨λa w F H x p q=>(aU (uZ (h.h a w F H x p q)))⟩
theorem xSb {Q3:Exit->Act->Wd->Prop} {K1:Act->Wd->Prop} {Q2:Exit->Act->Wd->Prop} (h:J n X N w0 L D tt CC (Q2 .ret)):J n X N w0 L D tt CC (Exit.then (Code.ret.wp P (Exit.then K1 Q2)) Q3 .normal):=⟨λa w F H x p q=>(aU (uZ (uR (h.h a w F H x p q))))⟩
theorem xLw {Q4:Exit->Act->Wd->Prop} {i1:Nat} {K2:Act->Wd->Prop} {Q3:Exit->Act->Wd->Prop} (h:J n X N w0 L D tt CC (Q3 .ret)):J n X N w0 L D tt CC (Exit.then (Code.ret.wp P (Exit.inBlock i1 (Exit.then K2 Q3))) Q4 .normal):=⟨λa w F H x p q=>(aU (uZ (xRa (uR (h.h a w F H x p q)))))⟩
theorem xQf {Q5:Exit->Act->Wd->Prop} {i1:Nat} {K2:Act->Wd->Prop} {K3:Act->Wd->Prop} {Q4:Exit->Act->Wd->Prop} (h:J n X N w0 L D tt CC (Q4 .ret)):J n X N w0 L D tt CC (Exit.then (Code.ret.wp P (Exit.inBlock i1 (Exit.then K2 (Exit.then K3 Q4)))) Q5 .normal):=⟨λa w F H x p q=>(aU (uZ (xRa (uR (uR (h.h a w F H x p q))))))⟩
theorem zC {i1:Nat} {K2:Act->Wd->Prop} {Q3:Exit->Act->Wd->Prop} (h:J n X N w0 L D tt CC (Q3 .ret)):J n X N w0 L D tt CC (Exit.inBlock i1 (Exit.then K2 Q3) .ret):=⟨λa w F H x p q=>(xRa (uR (h.h a w F H x p q)))⟩
theorem xFw {i1:Nat} {K2:Act->Wd->Prop} {K3:Act->Wd->Prop} {Q4:Exit->Act->Wd->Prop} (h:J n X N w0 L D tt CC (Q4 .ret)):J n X N w0 L D tt CC (Exit.inBlock i1 (Exit.then K2 (Exit.then K3 Q4)) .ret):=⟨λa w F H x p q=>(xRa (uR (uR (h.h a w F H x p q))))⟩
theorem a_s {c1:Code} {c2:Code} {Q3:Exit->Act->Wd->Prop} (h:J n X N w0 L D tt CC (c1.wp P (Exit.then (c2.wp P Q3) Q3))):J n X N w0 L D tt CC ((Code.seq c1 c2).wp P Q3):=⟨λa w F H x p q=>(kQ (h.h a w F H x p q))⟩
theorem xN {c3:Code} {Q4:Exit->Act->Wd->Prop} {i1:Nat} {l2:List Oper} (h:J n X N w0 L D tt CC (wpList P l2.toArray (Exit.then (c3.wp P Q4) Q4) l2)):J n X N w0 L D tt CC ((Code.seq (Code.region i1 l2.toArray false) c3).wp P Q4):=⟨λa w F H x p q=>(kQ (bL (h.h a w F H x p q)))⟩
theorem vW {f:FuncId} {fn:Func} {w:Wd} {vs:List Vl} {I:ρ->Tl Vl (List As->List As)} {c3:Code} {i1:Nat} {l2:List Oper} (hf:P.funcs[f]?=some fn) (L:List (Nat×Vl)) (hN:HN N w) (k:∀ r,J n [] N w L [] tt (Cq I N w [] (Gt N w [] (I r))) (wpList P l2.toArray (Exit.then (c3.wp P (bodyPost P fn (Gt N w [] (I r)))) (bodyPost P fn (Gt N w [] (I r)))) l2)) (hb:fn.body=some (.seq (.region i1 l2.toArray false) c3):=by rfl) (hn:fn.ntmps=n:=by rfl) (hl:Nat.ble vs.length n=true:=by rfl) (hL:sub (((List.range vs.length).zip vs)) L:=by repeat (first | exact sn | refine sc rfl ?_)):∀ r,tt=some r->Calls P f vs.toArray w (Gt N w [] (I r)):=jiN hf L hN (λr=>xN (k r)) hb hn hl hL
theorem xSf {c3:Code} {Q4:Exit->Act->Wd->Prop} {c1:Code} {c2:Code} (h:J n X N w0 L D tt CC (c1.wp P (Exit.then (c2.wp P (Exit.then (c3.wp P Q4) Q4)) (Exit.then (c3.wp P Q4) Q4)))):J n X N w0 L D tt CC ((Code.seq (Code.seq c1 c2) c3).wp P Q4):=⟨λa w F H x p q=>(kQ (kQ (h.h a w F H x p q)))⟩
theorem xV {c4:Code} {Q5:Exit->Act->Wd->Prop} {c3:Code} {i1:Nat} {l2:List Oper} (h:J n X N w0 L D tt CC (wpList P l2.toArray (Exit.then (c3.wp P (Exit.then (c4.wp P Q5) Q5)) (Exit.then (c4.wp P Q5) Q5)) l2)):J n X N w0 L D tt CC ((Code.seq (Code.seq (Code.region i1 l2.toArray false) c3) c4).wp P Q5):=⟨λa w F H x p q=>(kQ (kQ (bL (h.h a w F H x p q))))⟩
theorem oJx {K2:Act->Wd->Prop} {i1:Nat} {K3:Act->Wd->Prop} {Q4:Exit->Act->Wd->Prop} (h:J n X N w0 L D tt CC (K3)):J n X N w0 L D tt CC ((Code.exit i1).wp P (Exit.then K2 (Exit.inBlock i1 (Exit.then K3 Q4)))):=⟨λa w F H x p q=>(xDw (xNa (xUw (aU (h.h a w F H x p q)))))⟩
theorem xQk {K2:Act->Wd->Prop} {i1:Nat} {Q6:Exit->Act->Wd->Prop} {i3:Nat} {l4:List Oper} {Q5:Exit->Act->Wd->Prop} (h:J n X N w0 L D tt CC (wpList P l4.toArray Q5 l4)):J n X N w0 L D tt CC ((Code.exit i1).wp P (Exit.then K2 (Exit.inBlock i1 (Exit.then ((Code.region i3 l4.toArray false).wp P Q5) Q6)))):=⟨λa w F H x p q=>(xDw (xNa (xUw (aU (bL (h.h a w F H x p q))))))⟩
theorem mK {K2:Act->Wd->Prop} {K3:Act->Wd->Prop} {Q4:Exit->Act->Wd->Prop} {i1:Nat} (h:J n X N w0 L D tt CC (Q4 (.exit i1))):J n X N w0 L D tt CC ((Code.exit i1).wp P (Exit.then K2 (Exit.then K3 Q4))):=⟨λa w F H x p q=>(xDw (xNa (xNa (h.h a w F H x p q))))⟩
theorem xP {K2:Act->Wd->Prop} {K3:Act->Wd->Prop} {i1:Nat} {K4:Act->Wd->Prop} {Q5:Exit->Act->Wd->Prop} (h:J n X N w0 L D tt CC (K4)):J n X N w0 L D tt CC ((Code.exit i1).wp P (Exit.then K2 (Exit.then K3 (Exit.inBlock i1 (Exit.then K4 Q5))))):=⟨λa w F H x p q=>(xDw (xNa (xNa (xUw (aU (h.h a w F H x p q))))))⟩
theorem a_z {fn1:Func} {R2:Ending->Wd->Prop} (h:J n X N w0 L D tt CC (bodyPost P fn1 R2 .ret)):J n X N w0 L D tt CC (bodyPost P fn1 R2 .normal):=⟨λa w F H x p q=>(oHy (h.h a w F H x p q))⟩
end
end
section
open Go.RowKit
theorem oIy (a:Addr) (w:Wd):(Instr.fieldAt 24 (.pointer (some a)) 0).run Tryz.prog w= .ok (.pointer (some (a.add 0))) w:=xY (k:=0) (off:=0) Tryz.underlying24 rfl Tryz.sizeOf2 kS rfl a w
theorem oHd (a:Addr) (w:Wd):(Instr.fieldAt 24 (.pointer (some a)) 1).run Tryz.prog w= .ok (.pointer (some (a.add 1))) w:=xY (k:=1) (off:=1) Tryz.underlying24 rfl Tryz.sizeOf22 kS rfl a w
theorem oIk (a:Addr) (w:Wd):(Instr.fieldAt 27 (.pointer (some a)) 0).run Tryz.prog w= .ok (.pointer (some (a.add 0))) w:=xY (k:=0) (off:=0) Tryz.underlying27 rfl Tryz.sizeOf24 kS rfl a w
theorem oHc (a:Addr) (w:Wd):(Instr.fieldAt 27 (.pointer (some a)) 1).run Tryz.prog w= .ok (.pointer (some (a.add 2))) w:=xY (k:=1) (off:=2) Tryz.underlying27 rfl Tryz.sizeOf25 kS rfl a w
theorem oHi (a:Addr) (w:Wd):(Instr.fieldAt 27 (.pointer (some a)) 2).run Tryz.prog w= .ok (.pointer (some (a.add 3))) w:=xY (k:=2) (off:=3) Tryz.underlying27 rfl Tryz.sizeOf2 kS rfl a w
theorem oIf (a:Addr) (w:Wd):(Instr.fieldAt 34 (.pointer (some a)) 0).run Tryz.prog w= .ok (.pointer (some (a.add 0))) w:=xY (k:=0) (off:=0) Tryz.underlying34 rfl Tryz.sizeOf2 kS rfl a w
theorem oHk (a:Addr) (w:Wd):(Instr.fieldAt 34 (.pointer (some a)) 1).run Tryz.prog w= .ok (.pointer (some (a.add 1))) w:=xY (k:=1) (off:=1) Tryz.underlying34 rfl Tryz.sizeOf32 kS rfl a w
theorem oIg (a:Addr) (w:Wd):(Instr.fieldAt 37 (.pointer (some a)) 0).run Tryz.prog w= .ok (.pointer (some (a.add 0))) w:=xY (k:=0) (off:=0) Tryz.underlying37 rfl Tryz.sizeOf34 kS rfl a w
theorem oJd (a:Addr) (w:Wd):(Instr.fieldAt 37 (.pointer (some a)) 1).run Tryz.prog w= .ok (.pointer (some (a.add 2))) w:=xY (k:=1) (off:=2) Tryz.underlying37 rfl Tryz.sizeOf35 kS rfl a w
theorem oIw (a:Addr) (w:Wd):(Instr.fieldAt 37 (.pointer (some a)) 2).run Tryz.prog w= .ok (.pointer (some (a.add 3))) w:=xY (k:=2) (off:=3) Tryz.underlying37 rfl Tryz.sizeOf2 kS rfl a w
theorem oJj (a:Addr) (w:Wd):(Instr.fieldAt 57 (.pointer (some a)) 0).run Tryz.prog w= .ok (.pointer (some (a.add 0))) w:=xY (k:=0) (off:=0) Tryz.underlying57 rfl Tryz.sizeOf2 kS rfl a w
theorem oIt (a:Addr) (w:Wd):(Instr.fieldAt 57 (.pointer (some a)) 1).run Tryz.prog w= .ok (.pointer (some (a.add 1))) w:=xY (k:=1) (off:=1) Tryz.underlying57 rfl Tryz.sizeOf53 kS rfl a w
theorem oHf (a:Addr) (w:Wd):(Instr.fieldAt 57 (.pointer (some a)) 2).run Tryz.prog w= .ok (.pointer (some (a.add 2))) w:=xY (k:=2) (off:=2) Tryz.underlying57 rfl Tryz.sizeOf54 kS rfl a w
theorem oJv (a:Addr) (w:Wd):(Instr.fieldAt 57 (.pointer (some a)) 3).run Tryz.prog w= .ok (.pointer (some (a.add 3))) w:=xY (k:=3) (off:=3) Tryz.underlying57 rfl Tryz.sizeOf55 kS rfl a w
theorem oHx (a:Addr) (w:Wd):(Instr.fieldAt 57 (.pointer (some a)) 4).run Tryz.prog w= .ok (.pointer (some (a.add 4))) w:=xY (k:=4) (off:=4) Tryz.underlying57 rfl Tryz.sizeOf53 kS rfl a w
theorem oHq (a:Addr) (w:Wd):(Instr.fieldAt 69 (.pointer (some a)) 0).run Tryz.prog w= .ok (.pointer (some (a.add 0))) w:=xY (k:=0) (off:=0) Tryz.underlying69 rfl Tryz.sizeOf2 kS rfl a w
theorem oKa (a:Addr) (w:Wd):(Instr.fieldAt 69 (.pointer (some a)) 1).run Tryz.prog w= .ok (.pointer (some (a.add 1))) w:=xY (k:=1) (off:=1) Tryz.underlying69 rfl Tryz.sizeOf67 kS rfl a w
theorem oJl (a:Addr) (w:Wd):(Instr.fieldAt 77 (.pointer (some a)) 0).run Tryz.prog w= .ok (.pointer (some (a.add 0))) w:=xY (k:=0) (off:=0) Tryz.underlying77 rfl Tryz.sizeOf2 kS rfl a w
theorem oHj (a:Addr) (w:Wd):(Instr.fieldAt 77 (.pointer (some a)) 1).run Tryz.prog w= .ok (.pointer (some (a.add 1))) w:=xY (k:=1) (off:=1) Tryz.underlying77 rfl Tryz.sizeOf75 kS rfl a w
theorem oJz (a:Addr) (w:Wd):(Instr.fieldAt 89 (.pointer (some a)) 0).run Tryz.prog w= .ok (.pointer (some (a.add 0))) w:=xY (k:=0) (off:=0) Tryz.underlying89 rfl Tryz.sizeOf2 kS rfl a w
theorem oJn (a:Addr) (w:Wd):(Instr.fieldAt 89 (.pointer (some a)) 1).run Tryz.prog w= .ok (.pointer (some (a.add 1))) w:=xY (k:=1) (off:=1) Tryz.underlying89 rfl Tryz.sizeOf2 kS rfl a w
theorem oHb (a:Addr) (w:Wd):(Instr.fieldAt 89 (.pointer (some a)) 2).run Tryz.prog w= .ok (.pointer (some (a.add 2))) w:=xY (k:=2) (off:=2) Tryz.underlying89 rfl Tryz.sizeOf2 kS rfl a w
theorem oIo (a:Addr) (w:Wd):(Instr.fieldAt 91 (.pointer (some a)) 0).run Tryz.prog w= .ok (.pointer (some (a.add 0))) w:=xY (k:=0) (off:=0) Tryz.underlying91 rfl Tryz.sizeOf2 kS rfl a w
theorem oGw (a:Addr) (w:Wd):(Instr.fieldAt 91 (.pointer (some a)) 1).run Tryz.prog w= .ok (.pointer (some (a.add 1))) w:=xY (k:=1) (off:=1) Tryz.underlying91 rfl Tryz.sizeOf2 kS rfl a w
theorem oJc (a:Addr) (w:Wd):(Instr.fieldAt 91 (.pointer (some a)) 2).run Tryz.prog w= .ok (.pointer (some (a.add 2))) w:=xY (k:=2) (off:=2) Tryz.underlying91 rfl Tryz.sizeOf2 kS rfl a w
theorem oHn (a:Addr) (w:Wd):(Instr.fieldAt 95 (.pointer (some a)) 0).run Tryz.prog w= .ok (.pointer (some (a.add 0))) w:=xY (k:=0) (off:=0) Tryz.underlying95 rfl Tryz.sizeOf2 kS rfl a w
theorem oHz (a:Addr) (w:Wd):(Instr.fieldAt 95 (.pointer (some a)) 1).run Tryz.prog w= .ok (.pointer (some (a.add 1))) w:=xY (k:=1) (off:=1) Tryz.underlying95 rfl Tryz.sizeOf93 kS rfl a w
theorem oJa (a:Addr) (w:Wd):(Instr.fieldAt 99 (.pointer (some a)) 0).run Tryz.prog w= .ok (.pointer (some (a.add 0))) w:=xY (k:=0) (off:=0) Tryz.underlying99 rfl Tryz.sizeOf2 kS rfl a w
theorem oJg (a:Addr) (w:Wd):(Instr.fieldAt 99 (.pointer (some a)) 1).run Tryz.prog w= .ok (.pointer (some (a.add 1))) w:=xY (k:=1) (off:=1) Tryz.underlying99 rfl Tryz.sizeOf93 kS rfl a w
theorem oDo (a:Addr) (w:Wd):(Instr.fieldAt 104 (.pointer (some a)) 0).run Tryz.prog w= .ok (.pointer (some (a.add 0))) w:=xY (k:=0) (off:=0) Tryz.underlying104 rfl Tryz.sizeOf2 kS rfl a w
theorem oEa (a:Addr) (w:Wd):(Instr.fieldAt 104 (.pointer (some a)) 1).run Tryz.prog w= .ok (.pointer (some (a.add 1))) w:=xY (k:=1) (off:=1) Tryz.underlying104 rfl Tryz.sizeOf53 kS rfl a w
theorem oCy (a:Addr) (w:Wd):(Instr.fieldAt 125 (.pointer (some a)) 0).run Tryz.prog w= .ok (.pointer (some (a.add 0))) w:=xY (k:=0) (off:=0) Tryz.underlying125 rfl Tryz.sizeOf2 kS rfl a w
theorem oEs (a:Addr) (w:Wd):(Instr.fieldAt 125 (.pointer (some a)) 1).run Tryz.prog w= .ok (.pointer (some (a.add 1))) w:=xY (k:=1) (off:=1) Tryz.underlying125 rfl Tryz.sizeOf53 kS rfl a w
theorem oDt (a:Addr) (w:Wd):(Instr.fieldAt 127 (.pointer (some a)) 0).run Tryz.prog w= .ok (.pointer (some (a.add 0))) w:=xY (k:=0) (off:=0) Tryz.underlying127 rfl Tryz.sizeOf2 kS rfl a w
theorem oFq (a:Addr) (w:Wd):(Instr.fieldAt 127 (.pointer (some a)) 1).run Tryz.prog w= .ok (.pointer (some (a.add 1))) w:=xY (k:=1) (off:=1) Tryz.underlying127 rfl Tryz.sizeOf53 kS rfl a w
theorem oCt (a:Addr) (w:Wd):(Instr.fieldAt 150 (.pointer (some a)) 0).run Tryz.prog w= .ok (.pointer (some (a.add 0))) w:=xY (k:=0) (off:=0) Tryz.underlying150 rfl Tryz.sizeOf2 kS rfl a w
theorem oEr (a:Addr) (w:Wd):(Instr.fieldAt 150 (.pointer (some a)) 1).run Tryz.prog w= .ok (.pointer (some (a.add 1))) w:=xY (k:=1) (off:=1) Tryz.underlying150 rfl Tryz.sizeOf2 kS rfl a w
theorem oDf (a:Addr) (w:Wd):(Instr.fieldAt 150 (.pointer (some a)) 2).run Tryz.prog w= .ok (.pointer (some (a.add 2))) w:=xY (k:=2) (off:=2) Tryz.underlying150 rfl Tryz.sizeOf148 kS rfl a w
theorem oDa (a:Addr) (w:Wd):(Instr.fieldAt 186 (.pointer (some a)) 0).run Tryz.prog w= .ok (.pointer (some (a.add 0))) w:=xY (k:=0) (off:=0) Tryz.underlying186 rfl Tryz.sizeOf53 kS rfl a w
theorem oEw (a:Addr) (w:Wd):(Instr.fieldAt 186 (.pointer (some a)) 1).run Tryz.prog w= .ok (.pointer (some (a.add 1))) w:=xY (k:=1) (off:=1) Tryz.underlying186 rfl Tryz.sizeOf2 kS rfl a w
theorem oDm (a:Addr) (w:Wd):(Instr.fieldAt 194 (.pointer (some a)) 0).run Tryz.prog w= .ok (.pointer (some (a.add 0))) w:=xY (k:=0) (off:=0) Tryz.underlying194 rfl Tryz.sizeOf53 kS rfl a w
theorem oCu (a:Addr) (w:Wd):(Instr.fieldAt 194 (.pointer (some a)) 1).run Tryz.prog w= .ok (.pointer (some (a.add 1))) w:=xY (k:=1) (off:=1) Tryz.underlying194 rfl Tryz.sizeOf2 kS rfl a w
theorem oFn (a:Addr) (w:Wd):(Instr.fieldAt 194 (.pointer (some a)) 2).run Tryz.prog w= .ok (.pointer (some (a.add 2))) w:=xY (k:=2) (off:=2) Tryz.underlying194 rfl Tryz.sizeOf53 kS rfl a w
theorem oEq (a:Addr) (w:Wd):(Instr.fieldAt 230 (.pointer (some a)) 0).run Tryz.prog w= .ok (.pointer (some (a.add 0))) w:=xY (k:=0) (off:=0) Tryz.underlying230 rfl Tryz.sizeOf71 kS rfl a w
theorem oEm (a:Addr) (w:Wd):(Instr.fieldAt 230 (.pointer (some a)) 1).run Tryz.prog w= .ok (.pointer (some (a.add 1))) w:=xY (k:=1) (off:=1) Tryz.underlying230 rfl Tryz.sizeOf2 kS rfl a w
theorem oGb (a:Addr) (w:Wd):(Instr.fieldAt 230 (.pointer (some a)) 2).run Tryz.prog w= .ok (.pointer (some (a.add 2))) w:=xY (k:=2) (off:=2) Tryz.underlying230 rfl Tryz.sizeOf228 kS rfl a w
theorem oDz (a:Addr) (w:Wd):(Instr.fieldAt 230 (.pointer (some a)) 3).run Tryz.prog w= .ok (.pointer (some (a.add 3))) w:=xY (k:=3) (off:=3) Tryz.underlying230 rfl Tryz.sizeOf227 kS rfl a w
theorem oDl (a:Addr) (w:Wd):(Instr.fieldAt 230 (.pointer (some a)) 4).run Tryz.prog w= .ok (.pointer (some (a.add 4))) w:=xY (k:=4) (off:=4) Tryz.underlying230 rfl Tryz.sizeOf53 kS rfl a w
theorem oCr (a:Addr) (w:Wd):(Instr.fieldAt 230 (.pointer (some a)) 5).run Tryz.prog w= .ok (.pointer (some (a.add 5))) w:=xY (k:=5) (off:=5) Tryz.underlying230 rfl Tryz.sizeOf53 kS rfl a w
theorem oCz (a:Addr) (w:Wd):(Instr.fieldAt 230 (.pointer (some a)) 6).run Tryz.prog w= .ok (.pointer (some (a.add 6))) w:=xY (k:=6) (off:=6) Tryz.underlying230 rfl Tryz.sizeOf2 kS rfl a w
theorem oCv (a:Addr) (w:Wd):(Instr.fieldAt 230 (.pointer (some a)) 7).run Tryz.prog w= .ok (.pointer (some (a.add 7))) w:=xY (k:=7) (off:=7) Tryz.underlying230 rfl Tryz.sizeOf4 kS rfl a w
theorem oEx (a:Addr) (w:Wd):(Instr.fieldAt 255 (.pointer (some a)) 0).run Tryz.prog w= .ok (.pointer (some (a.add 0))) w:=xY (k:=0) (off:=0) Tryz.underlying255 rfl Tryz.sizeOf34 kS rfl a w
theorem oDk (a:Addr) (w:Wd):(Instr.fieldAt 255 (.pointer (some a)) 1).run Tryz.prog w= .ok (.pointer (some (a.add 2))) w:=xY (k:=1) (off:=2) Tryz.underlying255 rfl Tryz.sizeOf2 kS rfl a w
theorem oFk (a:Addr) (w:Wd):(Instr.fieldAt 255 (.pointer (some a)) 2).run Tryz.prog w= .ok (.pointer (some (a.add 3))) w:=xY (k:=2) (off:=3) Tryz.underlying255 rfl Tryz.sizeOf252 kS rfl a w
theorem oCl (a:Addr) (w:Wd):(Instr.fieldAt 255 (.pointer (some a)) 3).run Tryz.prog w= .ok (.pointer (some (a.add 4))) w:=xY (k:=3) (off:=4) Tryz.underlying255 rfl Tryz.sizeOf253 kS rfl a w
theorem oDs (a:Addr) (w:Wd):(Instr.fieldAt 255 (.pointer (some a)) 4).run Tryz.prog w= .ok (.pointer (some (a.add 5))) w:=xY (k:=4) (off:=5) Tryz.underlying255 rfl Tryz.sizeOf53 kS rfl a w
theorem oEv (a:Addr) (w:Wd):(Instr.fieldAt 255 (.pointer (some a)) 5).run Tryz.prog w= .ok (.pointer (some (a.add 6))) w:=xY (k:=5) (off:=6) Tryz.underlying255 rfl Tryz.sizeOf3 kS rfl a w
theorem oDw (a:Addr) (w:Wd):(Instr.fieldAt 255 (.pointer (some a)) 6).run Tryz.prog w= .ok (.pointer (some (a.add 7))) w:=xY (k:=6) (off:=7) Tryz.underlying255 rfl Tryz.sizeOf53 kS rfl a w
theorem oEb (a:Addr) (w:Wd):(Instr.fieldAt 258 (.pointer (some a)) 0).run Tryz.prog w= .ok (.pointer (some (a.add 0))) w:=xY (k:=0) (off:=0) Tryz.underlying258 rfl Tryz.sizeOf3 kS rfl a w
theorem oFj (a:Addr) (w:Wd):(Instr.fieldAt 258 (.pointer (some a)) 1).run Tryz.prog w= .ok (.pointer (some (a.add 1))) w:=xY (k:=1) (off:=1) Tryz.underlying258 rfl Tryz.sizeOf53 kS rfl a w
theorem oFm (a:Addr) (w:Wd):(Instr.fieldAt 285 (.pointer (some a)) 0).run Tryz.prog w= .ok (.pointer (some (a.add 0))) w:=xY (k:=0) (off:=0) Tryz.underlying285 rfl Tryz.sizeOf53 kS rfl a w
theorem oDp (a:Addr) (w:Wd):(Instr.fieldAt 285 (.pointer (some a)) 1).run Tryz.prog w= .ok (.pointer (some (a.add 1))) w:=xY (k:=1) (off:=1) Tryz.underlying285 rfl Tryz.sizeOf53 kS rfl a w
theorem oDj (a:Addr) (w:Wd):(Instr.fieldAt 292 (.pointer (some a)) 2).run Tryz.prog w= .ok (.pointer (some (a.add 2))) w:=xY (k:=2) (off:=2) Tryz.underlying292 rfl Tryz.sizeOf256 kS rfl a w
theorem oCm (a:Addr) (w:Wd):(Instr.fieldAt 295 (.pointer (some a)) 0).run Tryz.prog w= .ok (.pointer (some (a.add 0))) w:=xY (k:=0) (off:=0) Tryz.underlying295 rfl Tryz.sizeOf3 kS rfl a w
theorem oDy (a:Addr) (w:Wd):(Instr.fieldAt 295 (.pointer (some a)) 1).run Tryz.prog w= .ok (.pointer (some (a.add 1))) w:=xY (k:=1) (off:=1) Tryz.underlying295 rfl Tryz.sizeOf53 kS rfl a w
end
section
open Go.Proofs.Tryz
set_option maxRecDepth 100000
abbrev CG (B:Nat->Prop) (w:Wd) (f:FuncId) (vs:Array Vl) (I:Tl Vl (List As->List As)):Prop:=Calls prog f vs w (Gt B w [] I)
instance:Mo prog:=⟨by kernel_rfl⟩
instance:type_of% (Ug.mk underlying3):=⟨underlying3⟩
instance:Ug prog 22 (.slice 95):=⟨underlying22⟩
instance:Ug prog 25 (.slice 69):=⟨underlying25⟩
instance:Ug prog 29 (.slice 57):=⟨underlying29⟩
instance:Ug prog 32 (.slice 99):=⟨underlying32⟩
instance:Ug prog 35 (.slice 77):=⟨underlying35⟩
instance:Ug prog 53 (.slice 2):=⟨underlying53⟩
instance:Ug prog 54 (.slice 89):=⟨underlying54⟩
instance:Ug prog 55 (.slice 91):=⟨underlying55⟩
instance:Ug prog 67 (.slice 127):=⟨underlying67⟩
instance:Ug prog 75 (.slice 125):=⟨underlying75⟩
instance:Ug prog 93 (.slice 53):=⟨underlying93⟩
instance:Ug prog 148 (.slice 186):=⟨underlying148⟩
instance:Ug prog 189 (.slice 194):=⟨underlying189⟩
instance:Ug prog 227 (.slice 296):=⟨underlying227⟩
instance:Ug prog 228 (.slice 231):=⟨underlying228⟩
instance:Ug prog 252 (.slice 259):=⟨underlying252⟩
instance:Ug prog 253 (.slice 256):=⟨underlying253⟩
instance:Ug prog 256 (.slice 4):=⟨underlying256⟩
instance:Ug prog 259 (.slice 258):=⟨underlying259⟩
instance:type_of% (Ug.mk underlying267):=⟨underlying267⟩
instance:type_of% (Ug.mk underlying271):=⟨underlying271⟩
instance:Ug prog 281 (.slice 285):=⟨underlying281⟩
instance:Ug prog 296 (.slice 295):=⟨underlying296⟩
instance:Sz prog 2 1:=⟨sizeOf2⟩
instance:Sz prog 3 1:=⟨sizeOf3⟩
instance:Sz prog 4 1:=⟨sizeOf4⟩
instance:Sz prog 24 2:=⟨sizeOf24⟩
instance:Sz prog 27 4:=⟨sizeOf27⟩
instance:Sz prog 32 1:=⟨sizeOf32⟩
instance:Sz prog 34 2:=⟨sizeOf34⟩
instance:Sz prog 35 1:=⟨sizeOf35⟩
instance:Sz prog 37 4:=⟨sizeOf37⟩
instance:Sz prog 53 1:=⟨sizeOf53⟩
instance:Sz prog 57 5:=⟨sizeOf57⟩
instance:Sz prog 69 2:=⟨sizeOf69⟩
instance:Sz prog 75 1:=⟨sizeOf75⟩
instance:Sz prog 77 2:=⟨sizeOf77⟩
instance:Sz prog 89 3:=⟨sizeOf89⟩
instance:Sz prog 91 3:=⟨sizeOf91⟩
instance:Sz prog 93 1:=⟨sizeOf93⟩
instance:Sz prog 95 2:=⟨sizeOf95⟩
instance:Sz prog 99 2:=⟨sizeOf99⟩
instance:Sz prog 104 2:=⟨sizeOf104⟩
instance:Sz prog 125 2:=⟨sizeOf125⟩
instance:Sz prog 127 2:=⟨sizeOf127⟩
instance:Sz prog 186 2:=⟨sizeOf186⟩
instance:Sz prog 194 3:=⟨sizeOf194⟩
instance:Sz prog 228 1:=⟨sizeOf228⟩
instance:Sz prog 231 1:=⟨sizeOf231⟩
instance:Sz prog 253 1:=⟨sizeOf253⟩
instance:Sz prog 256 1:=⟨sizeOf256⟩
instance:Sz prog 258 2:=⟨sizeOf258⟩
instance:Sz prog 259 1:=⟨sizeOf259⟩
instance:Sz prog 267 3:=⟨sizeOf267⟩
instance:Sz prog 285 2:=⟨sizeOf285⟩
instance:Sz prog 295 2:=⟨sizeOf295⟩
instance:Sz prog 296 1:=⟨sizeOf296⟩
instance:Ag prog 2 false:=⟨isAgg2⟩
instance:Ag prog 3 false:=⟨isAgg3⟩
instance:Ag prog 4 false:=⟨isAgg4⟩
instance:Ag prog 22 false:=⟨isAgg22⟩
instance:Ag prog 24 true:=⟨isAgg24⟩
instance:Ag prog 25 false:=⟨isAgg25⟩
instance:Ag prog 27 true:=⟨isAgg27⟩
instance:Ag prog 32 false:=⟨isAgg32⟩
instance:Ag prog 34 true:=⟨isAgg34⟩
instance:Ag prog 35 false:=⟨isAgg35⟩
instance:Ag prog 37 true:=⟨isAgg37⟩
instance:Ag prog 53 false:=⟨isAgg53⟩
instance:Ag prog 54 false:=⟨isAgg54⟩
instance:Ag prog 55 false:=⟨isAgg55⟩
instance:Ag prog 57 true:=⟨isAgg57⟩
instance:Ag prog 67 false:=⟨isAgg67⟩
instance:Ag prog 69 true:=⟨isAgg69⟩
instance:Ag prog 71 false:=⟨isAgg71⟩
instance:Ag prog 75 false:=⟨isAgg75⟩
instance:Ag prog 77 true:=⟨isAgg77⟩
instance:Ag prog 89 true:=⟨isAgg89⟩
instance:Ag prog 91 true:=⟨isAgg91⟩
instance:Ag prog 93 false:=⟨isAgg93⟩
instance:Ag prog 95 true:=⟨isAgg95⟩
instance:Ag prog 99 true:=⟨isAgg99⟩
instance:Ag prog 104 true:=⟨isAgg104⟩
instance:Ag prog 125 true:=⟨isAgg125⟩
instance:Ag prog 127 true:=⟨isAgg127⟩
instance:Ag prog 148 false:=⟨isAgg148⟩
instance:Ag prog 186 true:=⟨isAgg186⟩
instance:Ag prog 194 true:=⟨isAgg194⟩
instance:Ag prog 210 false:=⟨isAgg210⟩
instance:Ag prog 227 false:=⟨isAgg227⟩
instance:Ag prog 228 false:=⟨isAgg228⟩
instance:Ag prog 231 false:=⟨isAgg231⟩
instance:Ag prog 252 false:=⟨isAgg252⟩
instance:Ag prog 253 false:=⟨isAgg253⟩
instance:Ag prog 256 false:=⟨isAgg256⟩
instance:Ag prog 258 true:=⟨isAgg258⟩
instance:Ag prog 259 false:=⟨isAgg259⟩
instance:Ag prog 267 true:=⟨isAgg267⟩
instance:Ag prog 268 false:=⟨isAgg268⟩
instance:Ag prog 285 true:=⟨isAgg285⟩
instance:Ag prog 295 true:=⟨isAgg295⟩
instance:Ag prog 296 false:=⟨isAgg296⟩
instance:type_of% (Zv.mk zeroValue2):=⟨zeroValue2⟩
instance:type_of% (Zv.mk zeroValue34):=⟨zeroValue34⟩
instance:type_of% (Zv.mk zeroValue37):=⟨zeroValue37⟩
instance:type_of% (Zv.mk zeroValue53):=⟨zeroValue53⟩
instance:type_of% (Zv.mk zeroValue57):=⟨zeroValue57⟩
instance:type_of% (Zv.mk zeroValue77):=⟨zeroValue77⟩
instance:type_of% (Zv.mk zeroValue89):=⟨zeroValue89⟩
instance:type_of% (Zv.mk zeroValue91):=⟨zeroValue91⟩
instance:type_of% (Zv.mk zeroValue99):=⟨zeroValue99⟩
instance:type_of% (Zv.mk zeroValue104):=⟨zeroValue104⟩
instance:type_of% (Zv.mk zeroValue125):=⟨zeroValue125⟩
instance:type_of% (Zv.mk zeroValue194):=⟨zeroValue194⟩
instance:type_of% (Zv.mk zeroValue231):=⟨zeroValue231⟩
instance:type_of% (Zv.mk zeroValue256):=⟨zeroValue256⟩
instance:type_of% (Zv.mk zeroValue258):=⟨zeroValue258⟩
instance:type_of% (Zv.mk zeroValue267):=⟨zeroValue267⟩
instance:type_of% (Zv.mk zeroValue285):=⟨zeroValue285⟩
instance:type_of% (Zv.mk zeroValue295):=⟨zeroValue295⟩
instance:If prog 2 (.int .i64 0) 1 8:=⟨by kernel_rfl⟩
instance:If prog 4 (.bool false) 1 1:=⟨by kernel_rfl⟩
instance:If prog 53 ((.slice none 0 0)) 1 24:=⟨by kernel_rfl⟩
instance:If prog 57 (.agg #[.int .i64 0,(.slice none 0 0),(.slice none 0 0),(.slice none 0 0),(.slice none 0 0)]) 5 104:=⟨by kernel_rfl⟩
instance:If prog 77 (.agg #[.int .i64 0,(.slice none 0 0)]) 2 32:=⟨by kernel_rfl⟩
instance:If prog 89 (.agg #[.int .i64 0,.int .i64 0,.int .i64 0]) 3 24:=⟨by kernel_rfl⟩
instance:If prog 91 (.agg #[.int .i64 0,.int .i64 0,.int .i64 0]) 3 24:=⟨by kernel_rfl⟩
instance:If prog 99 (.agg #[.int .i64 0,(.slice none 0 0)]) 2 32:=⟨by kernel_rfl⟩
instance:If prog 125 (.agg #[.int .i64 0,(.slice none 0 0)]) 2 32:=⟨by kernel_rfl⟩
instance:If prog 186 (.agg #[(.slice none 0 0),.int .i64 0]) 2 32:=⟨by kernel_rfl⟩
instance:If prog 194 (.agg #[(.slice none 0 0),.int .i64 0,(.slice none 0 0)]) 3 56:=⟨by kernel_rfl⟩
instance:If prog 231 ((.pointer none)) 1 8:=⟨by kernel_rfl⟩
instance:If prog 256 ((.slice none 0 0)) 1 24:=⟨by kernel_rfl⟩
instance:If prog 258 (.agg #[.int .i64 0,(.slice none 0 0)]) 2 32:=⟨by kernel_rfl⟩
instance:If prog 259 ((.slice none 0 0)) 1 24:=⟨by kernel_rfl⟩
instance:If prog 285 (.agg #[(.slice none 0 0),(.slice none 0 0)]) 2 48:=⟨by kernel_rfl⟩
instance:If prog 295 (.agg #[.int .i64 0,(.slice none 0 0)]) 2 32:=⟨by kernel_rfl⟩
instance:If prog 296 ((.slice none 0 0)) 1 24:=⟨by kernel_rfl⟩
instance:Fd prog 24 0 0:=⟨oIy⟩
instance:Fd prog 24 1 1:=⟨oHd⟩
instance:Fd prog 27 0 0:=⟨oIk⟩
instance:Fd prog 27 1 2:=⟨oHc⟩
instance:Fd prog 27 2 3:=⟨oHi⟩
instance:Fd prog 34 0 0:=⟨oIf⟩
instance:Fd prog 34 1 1:=⟨oHk⟩
instance:Fd prog 37 0 0:=⟨oIg⟩
instance:Fd prog 37 1 2:=⟨oJd⟩
instance:Fd prog 37 2 3:=⟨oIw⟩
instance:Fd prog 57 0 0:=⟨oJj⟩
instance:Fd prog 57 1 1:=⟨oIt⟩
instance:Fd prog 57 2 2:=⟨oHf⟩
instance:Fd prog 57 3 3:=⟨oJv⟩
instance:Fd prog 57 4 4:=⟨oHx⟩
instance:Fd prog 69 0 0:=⟨oHq⟩
instance:Fd prog 69 1 1:=⟨oKa⟩
instance:Fd prog 77 0 0:=⟨oJl⟩
instance:Fd prog 77 1 1:=⟨oHj⟩
instance:Fd prog 89 0 0:=⟨oJz⟩
instance:Fd prog 89 1 1:=⟨oJn⟩
instance:Fd prog 89 2 2:=⟨oHb⟩
instance:Fd prog 91 0 0:=⟨oIo⟩
instance:Fd prog 91 1 1:=⟨oGw⟩
instance:Fd prog 91 2 2:=⟨oJc⟩
instance:Fd prog 95 0 0:=⟨oHn⟩
instance:Fd prog 95 1 1:=⟨oHz⟩
instance:Fd prog 99 0 0:=⟨oJa⟩
instance:Fd prog 99 1 1:=⟨oJg⟩
instance:Fd prog 104 0 0:=⟨oDo⟩
instance:Fd prog 104 1 1:=⟨oEa⟩
instance:Fd prog 125 0 0:=⟨oCy⟩
instance:Fd prog 125 1 1:=⟨oEs⟩
instance:Fd prog 127 0 0:=⟨oDt⟩
instance:Fd prog 127 1 1:=⟨oFq⟩
instance:Fd prog 150 0 0:=⟨oCt⟩
instance:Fd prog 150 1 1:=⟨oEr⟩
instance:Fd prog 150 2 2:=⟨oDf⟩
instance:Fd prog 186 0 0:=⟨oDa⟩
instance:Fd prog 186 1 1:=⟨oEw⟩
instance:Fd prog 194 1 1:=⟨oCu⟩
instance:Fd prog 194 2 2:=⟨oFn⟩
instance:Fd prog 230 0 0:=⟨oEq⟩
instance:Fd prog 230 1 1:=⟨oEm⟩
instance:Fd prog 230 2 2:=⟨oGb⟩
instance:Fd prog 230 3 3:=⟨oDz⟩
instance:Fd prog 230 4 4:=⟨oDl⟩
instance:Fd prog 230 5 5:=⟨oCr⟩
instance:Fd prog 230 6 6:=⟨oCz⟩
instance:Fd prog 230 7 7:=⟨oCv⟩
instance:Fd prog 255 0 0:=⟨oEx⟩
instance:Fd prog 255 1 2:=⟨oDk⟩
instance:Fd prog 255 2 3:=⟨oFk⟩
instance:Fd prog 255 3 4:=⟨oCl⟩
instance:Fd prog 255 4 5:=⟨oDs⟩
instance:Fd prog 255 5 6:=⟨oEv⟩
instance:Fd prog 255 6 7:=⟨oDw⟩
instance:Fd prog 258 0 0:=⟨oEb⟩
instance:Fd prog 258 1 1:=⟨oFj⟩
instance:Fd prog 285 0 0:=⟨oFm⟩
instance:Fd prog 285 1 1:=⟨oDp⟩
instance:Fd prog 292 2 2:=⟨oDj⟩
instance:Fd prog 295 0 0:=⟨oCm⟩
instance:Fd prog 295 1 1:=⟨oDy⟩
instance:Fv prog 150 2 2:=Fv.mk' underlying150 rfl rfl isAgg148
instance:Fv prog 285 1 1:=Fv.mk' underlying285 rfl rfl isAgg53
instance:type_of% (BdT.mk underlying57 zeroValue57 (λw=>by simp [sizeOf2,sizeOf53,sizeOf54,sizeOf55];rfl)):=⟨underlying57,zeroValue57,(λw=>by simp [sizeOf2,sizeOf53,sizeOf54,sizeOf55])⟩
instance:type_of% (BdT.mk underlying89 zeroValue89 (λw=>by simp [sizeOf2];rfl)):=⟨underlying89,zeroValue89,(λw=>by simp [sizeOf2])⟩
instance:type_of% (BdT.mk underlying91 zeroValue91 (λw=>by simp [sizeOf2];rfl)):=⟨underlying91,zeroValue91,(λw=>by simp [sizeOf2])⟩
instance:type_of% (BdT.mk underlying99 zeroValue99 (λw=>by simp [sizeOf2,sizeOf93];rfl)):=⟨underlying99,zeroValue99,(λw=>by simp [sizeOf2,sizeOf93])⟩
instance:type_of% (BdT.mk underlying104 zeroValue104 (λw=>by simp [sizeOf2,sizeOf53];rfl)):=⟨underlying104,zeroValue104,(λw=>by simp [sizeOf2,sizeOf53])⟩
instance:type_of% (BdT.mk underlying194 zeroValue194 (λw=>by simp [sizeOf2,sizeOf53];rfl)):=⟨underlying194,zeroValue194,(λw=>by simp [sizeOf2,sizeOf53])⟩
instance:type_of% (BdT.mk underlying230 zeroValue230 (λw=>by simp [sizeOf2,sizeOf227,sizeOf228,sizeOf4,sizeOf53,sizeOf71];rfl)):=⟨underlying230,zeroValue230,(λw=>by simp [sizeOf2,sizeOf227,sizeOf228,sizeOf4,sizeOf53,sizeOf71])⟩
instance:type_of% (BdT.mk underlying255 zeroValue255 (λw=>by simp [sizeOf2,sizeOf252,sizeOf253,sizeOf3,sizeOf34,sizeOf53];rfl)):=⟨underlying255,zeroValue255,(λw=>by simp [sizeOf2,sizeOf252,sizeOf253,sizeOf3,sizeOf34,sizeOf53])⟩
instance:type_of% (BdT.mk underlying258 zeroValue258 (λw=>by simp [sizeOf3,sizeOf53];rfl)):=⟨underlying258,zeroValue258,(λw=>by simp [sizeOf3,sizeOf53])⟩
instance:type_of% (BdT.mk underlying285 zeroValue285 (λw=>by simp [sizeOf53];rfl)):=⟨underlying285,zeroValue285,(λw=>by simp [sizeOf53])⟩
instance:type_of% (BdT.mk underlying292 zeroValue292 (λw=>by simp [sizeOf2,sizeOf256];rfl)):=⟨underlying292,zeroValue292,(λw=>by simp [sizeOf2,sizeOf256])⟩
instance:type_of% (BdT.mk underlying295 zeroValue295 (λw=>by simp [sizeOf3,sizeOf53];rfl)):=⟨underlying295,zeroValue295,(λw=>by simp [sizeOf3,sizeOf53])⟩
end
section
set_option maxRecDepth 100000
open Go.Shelf
def xLy:Go.Shelf.Ren:=⟨λ| 53=>259 | 64=>291 | 63=>290 | 78=>307 | 79=>308 | 70=>298 | 71=>299 | 72=>300 | 73=>301 | 74=>302 | 75=>303 | 59=>304 | 76=>305 | 77=>306 | 88=>309 | 89=>310 | 90=>311 | 91=>312 | 92=>313 | 68=>204 | 96=>314 | n=>n,λ| 22=>53 | 23=>2 | 3=>3 | 51=>271 | 0=>0 | 67=>302 | 69=>305 | 4=>4 | 61=>327 | 60=>326 | 44=>308 | 5=>5 | 9=>9 | 75=>334 | 79=>338 | 83=>340 | 84=>341 | n=>n,λ| n=>n⟩
theorem oMf:Go.Proofs.SlLaysN.n53 Tryz.prog xLy:={
  mixed:=by kernel_rfl
  f53:=⟨Tryz.f259.name,by decide,Tryz.func259.trans (congrArg some (by kernel_rfl))⟩
  f59:=⟨Tryz.f304.name,by decide,Tryz.func304.trans (congrArg some (by kernel_rfl))⟩
  f63:=⟨Tryz.f290.name,by decide,Tryz.func290.trans (congrArg some (by kernel_rfl))⟩
  f64:=Tryz.func291.trans (congrArg some (by kernel_rfl))
  f68:=⟨Tryz.f204.name,by decide,Tryz.func204.trans (congrArg some (by kernel_rfl))⟩
  f70:=⟨Tryz.f298.name,by decide,Tryz.func298.trans (congrArg some (by kernel_rfl))⟩
  f71:=⟨Tryz.f299.name,by decide,Tryz.func299.trans (congrArg some (by kernel_rfl))⟩
  f72:=⟨Tryz.f300.name,by decide,Tryz.func300.trans (congrArg some (by kernel_rfl))⟩
  f73:=⟨Tryz.f301.name,by decide,Tryz.func301.trans (congrArg some (by kernel_rfl))⟩
  f74:=⟨Tryz.f302.name,by decide,Tryz.func302.trans (congrArg some (by kernel_rfl))⟩
  f75:=⟨Tryz.f303.name,by decide,Tryz.func303.trans (congrArg some (by kernel_rfl))⟩
  f76:=⟨Tryz.f305.name,by decide,Tryz.func305.trans (congrArg some (by kernel_rfl))⟩
  f77:=⟨Tryz.f306.name,by decide,Tryz.func306.trans (congrArg some (by kernel_rfl))⟩
  f78:=Tryz.func307.trans (congrArg some (by kernel_rfl))
  f79:=Tryz.func308.trans (congrArg some (by kernel_rfl))
  f88:=⟨Tryz.f309.name,by decide,Tryz.func309.trans (congrArg some (by kernel_rfl))⟩
  f89:=Tryz.func310.trans (congrArg some (by kernel_rfl))
  f90:=Tryz.func311.trans (congrArg some (by kernel_rfl))
  f91:=⟨Tryz.f312.name,by decide,Tryz.func312.trans (congrArg some (by kernel_rfl))⟩
  f92:=⟨Tryz.f313.name,by decide,Tryz.func313.trans (congrArg some (by kernel_rfl))⟩
  f96:=⟨Tryz.f314.name,by decide,Tryz.func314.trans (congrArg some (by kernel_rfl))⟩
  t0:=Tryz.underlying0
  a0:=Tryz.isAgg0
  z0:=Tryz.sizeOf0
  v0:=Tryz.zeroValue0
  t3:=Tryz.underlying3
  a3:=Tryz.isAgg3
  z3:=Tryz.sizeOf3
  v3:=Tryz.zeroValue3
  t4:=Tryz.underlying4
  a4:=Tryz.isAgg4
  z4:=Tryz.sizeOf4
  v4:=Tryz.zeroValue4
  t5:=Tryz.underlying5
  a5:=Tryz.isAgg5
  z5:=Tryz.sizeOf5
  v5:=Tryz.zeroValue5
  t9:=Tryz.underlying9
  a9:=Tryz.isAgg9
  z9:=Tryz.sizeOf9
  v9:=Tryz.zeroValue9
  t22:=Tryz.underlying53
  a22:=Tryz.isAgg53
  z22:=Tryz.sizeOf53
  v22:=Tryz.zeroValue53
  t23:=Tryz.underlying2
  a23:=Tryz.isAgg2
  z23:=Tryz.sizeOf2
  v23:=Tryz.zeroValue2
  t44:=Tryz.underlying308
  a44:=Tryz.isAgg308
  z44:=Tryz.sizeOf308
  v44:=Tryz.zeroValue308
  t51:=Tryz.underlying271
  a51:=Tryz.isAgg271
  z51:=Tryz.sizeOf271
  v51:=Tryz.zeroValue271
  t60:=Tryz.underlying326
  a60:=Tryz.isAgg326
  z60:=Tryz.sizeOf326
  v60:=Tryz.zeroValue326
  t61:=Tryz.underlying327
  a61:=Tryz.isAgg327
  z61:=Tryz.sizeOf327
  v61:=Tryz.zeroValue327
  t67:=Tryz.underlying302
  a67:=Tryz.isAgg302
  z67:=Tryz.sizeOf302
  v67:=Tryz.zeroValue302
  t69:=Tryz.underlying305
  a69:=Tryz.isAgg305
  z69:=Tryz.sizeOf305
  v69:=Tryz.zeroValue305
  t75:=Tryz.underlying334
  a75:=Tryz.isAgg334
  z75:=Tryz.sizeOf334
  v75:=Tryz.zeroValue334
  t79:=Tryz.underlying338
  a79:=Tryz.isAgg338
  z79:=Tryz.sizeOf338
  v79:=Tryz.zeroValue338
  t83:=Tryz.underlying340
  a83:=Tryz.isAgg340
  z83:=Tryz.sizeOf340
  v83:=Tryz.zeroValue340
  t84:=Tryz.underlying341
  a84:=Tryz.isAgg341
  z84:=Tryz.sizeOf341
  v84:=Tryz.zeroValue341 }
end
section
set_option maxRecDepth 100000
open Go.RowKit Go.Sort Go.Lib
theorem oJo {E B:Nat} {w:Wd} {v:Vl} {l:List Int} {rb:List Nat} (A:Row 1 xF E B w v l rb []) (hl:0<l.length) :
 ∃ g cap cur,v= .slice (some ⟨g,0,none⟩) l.length cap/\rb=[g]/\lG w g cur E/\l.length<=cap/\cap<=maxLen/\cur.size=cap/\(∀ (i:Nat) (x:Int),l[i]?=some x->cur[i]?=some (Value.int .i64 x))/\∀ x∈l,xM x:=by
 obtain⟨xs,bss,ho,hbl,hfl,he⟩:=A.row;have hrb:=A.hrb
 have qa:∀ (i:Nat) (x:Int),l[i]?=some x->xs[i]?=some (.int .i64 x)/\xM x:=by
  intro i x hx;have hi:=(Ac.1 hx).1;obtain⟨h1,h2,_⟩:=he i x bss[i] hx (Aa xG);exact⟨by simpa using h1,h2⟩
 rcases ho.2 with ⟨rfl,hn⟩ | ⟨g,cap,cur,rfl,hbg,hg,h4,h5,h6,h7⟩
 ·omega
 ·refine⟨g,cap,cur,rfl,?_,hg,h4,h5,xG,λi x hx=>?_,λx hx=>?_⟩
  ·rw[hrb];simp [uA,Value.ownBlock]
  ·have hi:=(Ac.1 hx).1
   have:=(qa i x hx).1;rw[<- h7,Bf,if_pos xG] at this
   simpa using this
  ·obtain⟨i,hi,rfl⟩:=List.mem_iff_getElem.1 hx
   exact(qa i _ (Aa hi)).2
theorem oId {E g cap:Nat} {w:Wd} {l:List Int} {cur:Array Vl} (hK:lG w g cur E) (h4:l.length<=cap) (h5:cap<=maxLen) (h6:cur.size=cap) (h7:∀ (i:Nat) (x:Int),l[i]?=some x->cur[i]?=some (Value.int .i64 x)) (hI:∀ x∈l,xM x) :
 Row 1 xF E 0 w (.slice (some ⟨g,0,none⟩) l.length cap) l [g] []:=by
 refine⟨⟨l.map (λx=>Value.int .i64 x),List.replicate l.length [],⟨vK,.inr ⟨g,cap,cur,rfl,Bi _,hK,h4,h5,xG,?_⟩⟩,vK,vK,λi x bi hx hb=>?_⟩,by simp [uA,Value.ownBlock],kH.nil _,Dj.nil _⟩
 ·refine Cr (λm=>?_)
  rw[Bf,Bc]
  split
  ·rename_i hm
   have:l[m]?=some (l[m]'(xG)):=Aa xG;rw[Du,this,h7 m _ this]
   rfl
  ·rename_i hm
   rw[Ce xG]
   rfl
 ·have qa:=Cg (Af hb)
  refine⟨?_,hI x (Af hx),qa⟩
  show(List.map (λx=>Value.int .i64 x) l)[i*1+0]?=_
  rw[Cj,Cd,Bc,hx]
  rfl
theorem xUs {E g:Nat} {w:Wd} {cur:Array Vl} (hK:lG w g cur E) (d:Array Int):lG (putRow (Value.int .i64) w g 0 d) g (putCells (Value.int .i64) 0 d cur) E/\B5 [g] w (putRow (Value.int .i64) w g 0 d):=by
 have hlt:=hK.lt
 unfold lG at hK ⊢
 unfold putRow mapBlock
 refine⟨?_,rfl,rfl,rfl,?_,λk hk hn=>?_⟩
 ·simp only[Array.getElem?_modify,if_true,hK]
  rfl
 ·simp
 ·simp only[Array.getElem?_modify]
  rw[if_neg (λe=>hn (by simp [e]))]
theorem oCp {E B:Nat} {w:Wd} {v:Vl} {l:List Int} {rb:List Nat} (A:Row 1 xF E B w v l rb []) (hl:l.length=0):∃ p cap,v= .slice p 0 cap:=by
 obtain⟨xs,bss,ho,_⟩:=A.row
 rcases ho.2 with ⟨rfl,hn⟩ | ⟨g,cap,cur,rfl,_⟩
 ·exact⟨none,0,rfl⟩
 ·exact⟨_,cap,by rw[hl]⟩
end
section
set_option maxRecDepth 100000
open Go.RowKit Go.Sort Go.Lib
def zZ (x0:List Int):Option (List Int):= if x0.length<=1048576 then some (x0.mergeSort λx y=>decide (x<=y)) else none
theorem tB {x0:List Int} (r:List Int) (hR:zZ x0=some r) {v0:Vl} {rb0:List Nat} (w0:Wd) (A0:Row 1 xF 2 0 w0 v0 x0 rb0 []):Calls Tryz.prog 259 #[v0] w0 (oAc rb0 (λv w'=>v= .tuple #[]/\Row 1 xF 2 0 w' v0 r rb0 []) w0):=by
 unfold zZ at hR
 split at hR
 case isFalse=>cases hR
 rename_i hc;obtain rfl:=Option.some.inj hR
 clear hR
 rcases Nat.eq_zero_or_pos x0.length with hz | hz
 ·obtain⟨p,cap,rfl⟩:=oCp A0 hz
  obtain rfl:=Cc.1 hz;refine(show Calls Tryz.prog 259 #[.slice p 0 cap] w0 _ from by simpa [xLy] using AnyG.slices_Sort_int_none oMf p cap w0).mono ?_
  rintro e w' ⟨rfl,rfl⟩
  exact⟨_,rfl,B5.refl _ _,rfl,by rw[List.mergeSort_nil];exact A0⟩
 obtain⟨g,cap,cur,rfl,rfl,hK,hle,qf,qg,qa,hI⟩:=oJo A0 hz
 have hH:Holds (Value.int .i64) w0 g 0 x0.toArray:=by
  intro j hj;have qh:j<x0.length:=vV hj;refine⟨?_,hK.frozen _⟩;rw[Bn,hK.cell,qa j _ (Aa qh),getElem!_pos x0.toArray j hj]
  simp
 have h:=AnyG.slices_Sort_int oMf g 0 cap x0 w0 hH hK.lt xG;refine(show Calls Tryz.prog 259 #[.slice (some ⟨g,0,none⟩) x0.length cap] w0 _ from by simpa [xLy] using h).mono ?_
 rintro e w' ⟨rfl,q,os,rfl⟩
 have qe:(x0.mergeSort λx y=>decide (x<=y)).length=x0.length:=List.length_mergeSort _;obtain⟨m,hm⟩:∃ m,m=x0.mergeSort λx y=>decide (x<=y):=⟨_,rfl⟩
 have qc:∀ x∈m,x∈x0:=λx hx=>by rw[hm] at hx;exact List.mem_mergeSort.1 hx
 rw[<- hm] at qe ⊢;have qi:lG (Go.Sort.ahead w0 q) g cur 2:=hK;have hq:B5 [g] w0 (Go.Sort.ahead w0 q):=⟨rfl,rfl,rfl,Az _,λ_ _ _=>rfl⟩;obtain⟨k1,k2⟩:=xUs qi m.toArray;have qj:=hq.trans k2
 have hg:B5 [g] w0 (grow (putRow (Value.int .i64) (Go.Sort.ahead w0 q) g 0 m.toArray) os):=by
  refine qj.trans ⟨rfl,rfl,rfl,by simp [grow],λk hk _=>heap_grow_old _ _ hk⟩
 have k3:lG (grow (putRow (Value.int .i64) (Go.Sort.ahead w0 q) g 0 m.toArray) os) g (putCells (Value.int .i64) 0 m.toArray cur) 2:=by
  unfold lG at k1 ⊢
  rw[heap_grow_old _ _ (xEo k1),k1]
 have R:=oId (l:=m) k3 xG qf (by simp [putCells,qg]) (λi x hx=>by
  have hi:=(Ac.1 hx).1;have qd:i<cur.size:=xG
  unfold putCells
  rw[Array.getElem?_mapIdx,Dc qd,Cw,if_pos ⟨Bi _,by simp;omega⟩,Fg]
  have hg:(m.toArray)[i]! = x:=by
   rw[getElem!_pos m.toArray i (vV hi)];simp only[List.getElem_toArray];exact(Ac.1 hx).2
  rw[hg]) (λx hx=>hI x (qc x hx))
 rw[qe] at R;exact⟨_,rfl,hg,rfl,R⟩
end
section
open Go.RowKit
section
variable {ops:Array Oper} {Q:Exit->Act->Wd->Prop} {a:Act} {w w0:Wd} {n:Nat} {L:List (Nat×Vl)} {rest:List Oper} {d:Nat} {dd:Option Tmp} {ty:Ty} {pos:String} {af:Array Edge} {g:Option (Nat×Bool)} {N:Nat->Prop} {X:List Nat} {D:List As} {P:Program}
theorem oKl {xs:List Operand} {at':Array Ty} {v:Vl} {l r:List Int} (F:Sk a n L) (hc:vR ops n L g d=true) (hf:∀ args w,(callFunc 259 args).run Tryz.prog w= .ok (.enter 259 args) w) (e:evs L xs=some [v]) (H:Sep X N w0 w (rl 1 xF 2 v l::D)) (hr:zZ l=some r) (k:∀ a' w',Sep X N w0 w' (rl 1 xF 2 v r::D)->Sk a' n ((d,.tuple #[])::L)->wpList Tryz.prog ops Q rest a' w'):wpList Tryz.prog ops Q (⟨some d,.call ⟨.value (.func 259),xs.toArray,at'⟩,ty,pos,af,g⟩::rest) a w:=by
 obtain⟨Y,⟨rb,ib,r1,ho,r2,r3⟩,hN,hY,tr⟩:=H.hd;obtain rfl:=xBu r1;refine oBv F hc hf e (tB r hr w r1) (λa' v' w' l' ⟨hv,q⟩ F'=>?_);subst hv;exact k a' w' (tr (Z:=rb) r2 l' (B:=rl 1 xF 2 v r) (Y1:=Y) ⟨rb,[],q,Own.nil _ _,r2,λ_ h=>nomatch h⟩ n0 (λc hc=>⟨.inl hc,Au (hY c hc).1 l'.size⟩)) F'
end
end
section
open Go.RowKit
section
variable {ops:Array Oper} {Q:Exit->Act->Wd->Prop} {n:Nat} {X:List Nat} {N:Nat->Prop} {w0:Wd} {L:List (Nat×Vl)} {D:List As} {ρ:Type} {tt:Option ρ} {CC:ρ->Prop} {rest:List Oper} {d:Nat} {ty:Ty} {pos:String} {af:Array Edge} {g:Option (Nat×Bool)}
theorem oKr {xs at' v l r} (hr:zZ l=some r) (kt:J n X N w0 ((d,.tuple #[])::L) (rl 1 xF 2 v r::D) tt CC (wpList Tryz.prog ops Q rest)) (hc:vR ops n L g d=true:=by rfl) (e:evs L xs=some [v]:=by rfl):J n X N w0 L (rl 1 xF 2 v l::D) tt CC (wpList Tryz.prog ops Q (⟨some d,.call ⟨.value (.func 259),xs.toArray,at'⟩,ty,pos,af,g⟩::rest)):=⟨λa w F H xq h1 h2=>oKl F hc Tryz.call259 e H hr (λa' w' H' F'=>kt.h a' w' F' H' xq h1 h2)⟩
end
end
section
set_option maxRecDepth 100000
open Go.Shelf
def oAr:Go.Shelf.Ren:=⟨λ| 212=>228 | 263=>265 | 264=>266 | n=>n,λ| 46=>271 | 51=>302 | 146=>303 | 53=>305 | 148=>306 | n=>n,λ| n=>n⟩
theorem layM:Go.Proofs.Lays.n212 Tryz.prog oAr:={
  mixed:=by kernel_rfl
  f212:=Tryz.func228.trans (congrArg some (by kernel_rfl))
  f263:=Tryz.func265.trans (congrArg some (by kernel_rfl))
  f264:=Tryz.func266.trans (congrArg some (by kernel_rfl))
  t46:=Tryz.underlying271
  a46:=Tryz.isAgg271
  z46:=Tryz.sizeOf271
  v46:=Tryz.zeroValue271
  t51:=Tryz.underlying302
  a51:=Tryz.isAgg302
  z51:=Tryz.sizeOf302
  v51:=Tryz.zeroValue302
  t53:=Tryz.underlying305
  a53:=Tryz.isAgg305
  z53:=Tryz.sizeOf305
  v53:=Tryz.zeroValue305
  t146:=Tryz.underlying303
  a146:=Tryz.isAgg303
  z146:=Tryz.sizeOf303
  v146:=Tryz.zeroValue303
  t148:=Tryz.underlying306
  a148:=Tryz.isAgg306
  z148:=Tryz.sizeOf306
  v148:=Tryz.zeroValue306 }
end
section
set_option maxRecDepth 100000
open Go.RowKit
variable {y:Operand} {x:Operand}
theorem Row.setI {E B:Nat} {g c i n:Nat} {w:Wd} {l:List Int} {z:Int} (hn:l.length=n) (A:Row 1 xF E B w (.slice (some ⟨g,0,none⟩) n c) l [g] []) (hi:i<n) (hz:xM z) :
 Row 1 xF E B (w.setCell ⟨g,i,none⟩ (.int .i64 z)) (.slice (some ⟨g,0,none⟩) n c) (l.set i z) [g] []/\B5 [g] w (w.setCell ⟨g,i,none⟩ (.int .i64 z)):=by
 subst hn;obtain⟨xs,bss,ho,hl,qe,he⟩:=A.row
 rcases ho.2 with ⟨h,_⟩ | ⟨g3,cap,cur,h,h2,h3,h4,h5,h6,h7⟩
 ·cases h
 simp only[Value.slice.injEq,Option.some.injEq,Addr.mk.injEq,and_true,true_and] at h;obtain⟨rfl,rfl⟩:=h;have qa:=ho.1;rw[Cj] at qa h6 h7;have hcur:i<cur.size:=xG;have hK:lG w g cur E:=h3;have hO:B5 [g] w (w.setCell ⟨g,i,none⟩ (.int .i64 z)):=⟨rfl,rfl,rfl,vK,λk _ hk=>Below.heap_setCell _ _ _ _ (vV hk)⟩
 have qg:∀ j bj,bss[j]?=some bj->bj=[]:=λj bj h=>by
  have:=Af h;exact Dx.1 qe bj this
 refine⟨⟨⟨xs.set i (.int .i64 z),bss,⟨by simp [qa],.inr ⟨g,c,cur.setIfInBounds i (.int .i64 z),vK,h2,hK.set_at rfl,vV h4,h5,vV h6,?_⟩⟩,by simp [hl],qe,λj y' bj qc qf=>?_⟩,rfl,kH.nil _,λb hb hm=>nomatch hm⟩,hO⟩
 ·simp only[Cl,Cj,Array.toList_setIfInBounds]
  rw[List.take_set,h7]
 ·rw[Cj]
  obtain rfl:=qg j bj qf
  by_cases qd:j=i
  ·subst qd
   rw[Ai hi] at qc
   cases qc
   exact⟨by show(xs.set j _)[j+0]?=_;rw[Cd,Ai xG],hz,rfl⟩
  ·rw[Ak (λe=>qd e.symm)] at qc
   have hm:=he j y' _ qc qf;rw[Cj] at hm;refine⟨?_,hm.2.1,rfl⟩
   show(xs.set i _)[j+0]?=_
   rw[Cd,Ak (λe=>qd e.symm)];exact hm.1
theorem Row.setsI {E B:Nat} {g c n:Nat}:∀ (m:List Int) (k:Nat) {w:Wd} {l:List Int} (hn:l.length=n) (A:Row 1 xF E B w (.slice (some ⟨g,0,none⟩) n c) l [g] []) (hk:k+m.length<=n) (hm:∀ x∈m,xM x),
 Row 1 xF E B (w.setCells g k (m.map (Value.int .i64))) (.slice (some ⟨g,0,none⟩) n c) (l.take k++m++l.drop (k+m.length)) [g] []/\B5 [g] w (w.setCells g k (m.map (Value.int .i64)))
 | [],k,w,l,hn,A,_,_=>by
  simp only[Ew,World.setCells,Ch,Bh,Cd,Ei];exact⟨A,B5.refl _ _⟩
 | x::m,k,w,l,hn,A,hk,hm=>by
  rw[Ao] at hk;obtain⟨A1,o1⟩:=A.setI hn (i:=k) xG (hm x vK);obtain⟨A2,o2⟩:=Row.setsI m (k+1) (by rw[Cl];exact hn) A1 xG (λy hy=>hm y (by simp [hy]))
  have e:l.take k++(x::m)++l.drop (k+(x::m).length)=(l.set k x).take (k+1)++m++(l.set k x).drop (k+1+m.length):=by
   rw[List.drop_set,if_pos xG,List.take_set,Ao,show k+1+m.length=k+(m.length+1) by omega]
   congr 1
   rw[List.append_cons]
   congr 1
   apply Cr
   intro j
   by_cases h1:j<k
   ·rw[Bu (by rw[Bd];omega),Ak xG,Bf,Bf,if_pos h1,if_pos xG]
   ·by_cases h2:j=k
    ·subst h2
     rw[Bb (by rw[Bd];omega),Ai (by rw[Bd];omega),Bd,Fa xG]
     simp
    ·rw[Ce (by simp;omega),Ce (by simp;omega)]
  rw[e];exact⟨A2,o1.trans o2⟩
def oKv (v:Vl) (N k:Nat) (p:Vl):Prop:=∃ d c',p= .slice d (N - k) c'/\(k<N->∃ g c,v= .slice (some ⟨g,0,none⟩) N c/\d=some ⟨g,k,none⟩)
section
variable {P:Program} {ops:Array Oper} {Q:Exit->Act->Wd->Prop} {a:Act} {w w0:Wd} {n:Nat} {L:List (Nat×Vl)} {rest:List Oper} {d:Nat} {ty:Ty} {pos:String} {af:Array Edge} {g:Option (Nat×Bool)} {N:Nat->Prop} {X:List Nat} {D:List As}
theorem oLg {t t' E:Ty} {v p u:Vl} {l m ll:List Int} {k:Nat} {ib:List Nat} (ht:P.underlying t=some (.slice E)) (hs:(P.info? E).map (·.size)=some 1)
 (F:Sk a n L) (hc:vR ops n L g d=true) (hx:ev L x=some p) (hy:ev L y=some u) (H:Sep X N w0 w (rl 1 xF E v l::D)) (hp:oKv v l.length k p) (hk:k<=l.length) (hu:Src 1 xF w u m ib) (qe:ll=l.take k++m.take (l.length - k)++l.drop (k+m.length))
 (kk:∀ a' w',Sep X N w0 w' (rl 1 xF E v ll::D)->Sk a' n ((d,.int .i64 ((min m.length (l.length - k):Nat):Int))::L)->wpList P ops Q rest a' w'):wpList P ops Q (⟨some d,.call ⟨.builtin .copy,#[x,y],#[t,t']⟩,ty,pos,af,g⟩::rest) a w:=by
 obtain⟨dd,c',rfl,hp⟩:=hp
 have qg:∃ ua uc,u= .slice ua m.length uc:=by
  rcases hu.2 with ⟨rfl,rfl,_⟩ | ⟨ad,uc,_,_,rfl,_⟩
  ·exact⟨_,_,rfl⟩
  ·exact⟨_,_,rfl⟩
 have qf:∀ {r:Vl} {w':Wd},(Builtin.copy_ #[t,t'] ty #[.slice dd (l.length - k) c',u]).run P w= .ok r w'->(execOp a.eval ⟨some d,.call ⟨.builtin .copy,#[x,y],#[t,t']⟩,ty,pos,af,g⟩).run P w= .ok (.value r) w':=λ{r w'} h=>by
  rw[BigFrame.execOp_builtin,BigFrame.builtin_copy];simp only[Dp,Dg,Ew,F.ev hx,F.ev hy]
  simp [h]
 by_cases h0:min m.length (l.length - k)=0
 ·have el:ll=l:=by
   rw[qe]
   rcases(xG:m.length=0∨l.length - k=0) with h | h
   ·obtain rfl:=Cc.1 h
    simp
   ·rw[h,Cn xG,Cv xG]
    simp
  obtain⟨ua,uc,rfl⟩:=qg;refine zT F hc (qf (run_copy_none (P:=P) w t t' ty E dd ua (l.length - k) c' m.length uc ht hs (by rw[Nat.min_comm] at h0;simpa using (xG:min m.length (l.length - k)=0)))) (λa' F'=>?_);rw[el] at kk;rw[h0] at kk;exact kk a' w H F'
 ·obtain⟨g1,c,rfl,rfl⟩:=hp xG
  obtain⟨Y,⟨rb,ib0,r1,ho,r2,r3⟩,hN,hY,tr⟩:=H.hd;obtain rfl:=xBu r1;have hrb:=r1.hrb
  simp [uA,Value.ownBlock] at hrb
  subst hrb
  rcases hu.2 with ⟨_,rfl,_⟩ | ⟨ad,uc,ys,css,rfl,hyl,qh,hcs,hcf,hr⟩
  ·simp at h0
  have hm:∀ j z,m[j]?=some z->ys[j]?=some (Value.int .i64 z)/\xM z:=λj z hz=>by
   have hj:=(Ac.1 hz).1;have:=hr j z _ hz (Aa xG);rw[Cj] at this;exact⟨by simpa using this.1,this.2.1⟩
  have hI:∀ z∈m.take (l.length - k),xM z:=λz hz=>by
   obtain⟨j,hj⟩:=List.mem_iff_getElem?.1 (Er hz);exact(hm j z hj).2
  have qc:(m.take (l.length - k)).length=min m.length (l.length - k):=by rw[Bd,Nat.min_comm]
  obtain⟨r1',o1⟩:=Row.setsI (m.take (l.length - k)) k rfl r1 xG hI
  have qd:∃ cur,lG w g1 cur E/\l.length<=cur.size:=by
   obtain⟨xs,bss,qi,_⟩:=r1.row
   rcases qi.2 with ⟨h,_⟩ | ⟨g3,cap,cur,h,h2,h3,h4,h5,h6,h7⟩
   ·cases h
   simp only[Value.slice.injEq,Option.some.injEq,Addr.mk.injEq,and_true,true_and] at h;obtain⟨rfl,rfl⟩:=h;exact⟨cur,h3,xG⟩
  obtain⟨cur,hK,hcz⟩:=qd
  have qa:=run_copy_cells (P:=P) w t t' ty E g1 k (l.length - k) c' ad m.length uc ((m.take (l.length - k)).map (Value.int .i64)) ht hs (by rw[Bw,qc])
   (λj q hq=>by
    rw[Bc] at hq;obtain⟨z,hz,rfl⟩:=Eb.1 hq;rw[Bf] at hz
    split at hz
    ·exact qh j _ (hm j z hz).1
    ·cases hz)
   (λj hj=>by rw[Bw,qc] at hj;rw[hK.cell,Dc xG];rfl)
   (λj hj=>hK.frozen _)
   (λq hq=>by obtain⟨z,_,rfl⟩:=Cy.1 hq;rfl)
  rw[Bw,qc] at qa;refine zT F hc (qf qa) (λa' F'=>?_)
  have el:ll=l.take k++m.take (l.length - k)++l.drop (k+(m.take (l.length - k)).length):=by
   rw[qe,qc]
   congr 1
   by_cases qj:m.length<=l.length - k
   ·rw[Fa qj]
   ·rw[Cv xG,Cv xG]
  subst el;exact kk a' _ (tr (Z:=[g1]) r2 o1 (B:=rl 1 xF E (.slice (some ⟨g1,0,none⟩) l.length c) _) (Y1:=Y) ⟨[g1],[],r1',Own.nil _ _,r2,λ_ h=>nomatch h⟩ n0 (λc hc=>⟨.inl hc,Au (hY c hc).1 o1.size⟩)) F'
theorem xVn {t t':Ty} {i j:Int} (F:Sk a n L) (hc:vR ops n L g d=true) (e:ev L x=some (.int .u64 i)) (e':ev L y=some (.int .u64 j)) (k:∀ a',Sk a' n ((d,.bool (decide (j<i)))::L)->wpList P ops Q rest a' w):wpList P ops Q (⟨some d,.binOp .gtr t x y t',ty,pos,af,g⟩::rest) a w:=zT F hc (by unfold execOp;simp only[F.ev e,F.ev e'];rfl) k
theorem oCi {t e:Ty} {dd:Option Tmp} {b N1 c k:Nat} {w':Wd} (ht:P.underlying t=some (.slice e)) (hz:∀ w,(sizeOf e).run P w= .ok 1 w) (F:Sk a n L) (he:ev L x=some (.slice (some ⟨b,0,none⟩) N1 c)) (hy:ev L y=some (.int .i64 (k:Int))) (hk:k<N1) (hc:N1<=c) :
 (execOp a.eval ⟨dd,.slice t x (some y) none none,ty,pos,af,g⟩).run P w'= .ok (.value (.slice (some ⟨b,k,none⟩) (N1 - k) (c - k))) w':=by
 have hE:P.elem t=e:=by simp [Program.elem,ht]
 have qa:P.underlying t=some (.slice (P.elem t)):=by rw[hE];exact ht
 have h1:(Instr.sliceAt t (.slice (some ⟨b,0,none⟩) N1 c) (some (.int .i64 (k:Int))) none none).run P w'= .ok (.slice (some ⟨b,k,none⟩) (N1 - k) (c - k)) w':=by
  rw[run_sliceAt_slice w' _ _ _ _ _ qa,run_slice_l w' t _ _ _ qa .i64 _ xG xG,hE,hz]
  simp [Result.andThen,sliced,Addr.add,show ¬ c=k by omega]
  try exact λh=>h.symm
 unfold execOp
 simp only[F.ev he,Option.map_none,Cw,F.ev hy]
 simp [h1]
theorem xZs {t e:Ty} {dd:Option Tmp} {b N1 c k:Nat} {w':Wd} (ht:P.underlying t=some (.slice e)) (hz:∀ w,(sizeOf e).run P w= .ok 1 w) (F:Sk a n L) (he:ev L x=some (.slice (some ⟨b,0,none⟩) N1 c)) (hy:ev L y=some (.int .i64 (k:Int))) (hk:k<=N1) (hc:N1<=c) :
 (execOp a.eval ⟨dd,.slice t x none (some y) none,ty,pos,af,g⟩).run P w'= .ok (.value (.slice (some ⟨b,0,none⟩) k c)) w':=by
 have hE:P.elem t=e:=by simp [Program.elem,ht]
 have qa:P.underlying t=some (.slice (P.elem t)):=by rw[hE];exact ht
 have h1:(Instr.sliceAt t (.slice (some ⟨b,0,none⟩) N1 c) none (some (.int .i64 (k:Int))) none).run P w'= .ok (.slice (some ⟨b,0,none⟩) k c) w':=by
  rw[run_sliceAt_slice w' _ _ _ _ _ qa,run_slice_h w' t _ _ _ qa .i64 _ xG xG,hE,hz]
  simp [Result.andThen,sliced,Addr.add]
 unfold execOp
 simp only[F.ev he,Option.map_none,Cw,F.ev hy]
 simp [h1]
theorem Sep.shape {E:Ty} {v:Vl} {l:List Int} (H:Sep X N w0 w (rl 1 xF E v l::D)) (h:0<l.length):∃ b c,v= .slice (some ⟨b,0,none⟩) l.length c/\l.length<=c:=by
 obtain⟨Y,⟨rb,ib,r1,_⟩,_⟩:=H.hd;obtain⟨xs,bss,ho,_⟩:=r1.row
 rcases ho.2 with ⟨_,h0⟩ | ⟨b,cap,cur,rfl,h2,h3,h4,h5⟩
 ·omega
 ·exact⟨b,cap,rfl,h4⟩
theorem Sep.tailv {E:Ty} {v:Vl} {l:List Int} (H:Sep X N w0 w (rl 1 xF E v l::D)):oKv v l.length 0 v:=by
 obtain⟨Y,⟨rb,ib,r1,_⟩,_⟩:=H.hd;obtain⟨xs,bss,ho,_⟩:=r1.row
 rcases ho.2 with ⟨rfl,h0⟩ | ⟨b,cap,cur,rfl,h2,h3,h4,h5⟩
 ·exact⟨none,0,by rw[h0],λh=>absurd h xG⟩
 ·exact⟨_,cap,rfl,λ_=>⟨b,cap,rfl,rfl⟩⟩
theorem Sep.srcTake {E:Ty} {b c k:Nat} {l:List Int} (H:Sep X N w0 w (rl 1 xF E (.slice (some ⟨b,0,none⟩) l.length c) l::D)) (hk:k<=l.length):Src 1 xF w (.slice (some ⟨b,0,none⟩) k c) (l.take k) []:=by
 obtain⟨Y,⟨rb,ib,r1,_⟩,_⟩:=H.hd;obtain rfl:=xBu r1
 rcases r1.src.2 with ⟨h,_⟩ | ⟨ad,uc,ys,css,h,hyl,qd,hcs,qc,hr⟩
 ·cases h
 injection h with h1 h2 h3
 obtain rfl:=Option.some.inj h1;subst h3
 have qa:(l.take k).length=k:=by rw[Bd];omega
 refine⟨kH.nil w,.inr ⟨_,c,ys.take k,css.take k,by rw[qa],by rw[Bd,qa];omega,λj q hq=>?_,by rw[Bd,qa];omega,?_,λi x bi hx hb=>?_⟩⟩
 ·rw[Bf] at hq
  split at hq
  ·exact qd j q hq
  ·cases hq
 ·rw[Dx] at qc ⊢
  exact λy hy=>qc y (Er hy)
 ·rw[Bf] at hx hb
  split at hx
  ·rename_i hik
   rw[if_pos hik] at hb;have:=hr i x bi hx hb;refine xF.fr _ _ _ _ _ _ this (λ_ _=>rfl) (λj hj=>?_);obtain rfl:j=0:=xG
   show(ys.take k)[i*1+0]?=ys[i*1+0]?
   rw[Bf,if_pos xG]
  ·cases hx
end
theorem xUj (n:Nat) (hn:n<=1000) (w:Wd):Calls Tryz.prog 228 #[.int .u64 1,.int .u64 (n:Int)] w (Gv (λv w'=>v= .tuple #[.int .u64 0,.int .u64 (n:Int)]/\w'=w)):=by
 have h:=Go.Proofs.Any.bits_Mul layM 1 n kS xG w;refine Calls.mono h ?_
 rintro e w' ⟨rfl,rfl⟩
 refine⟨_,rfl,?_,rfl⟩;rw[show 1*n / 18446744073709551616=0 by omega,show 1*n % 18446744073709551616=n by omega]
 rfl
def qP (x0:List Int) (x1:Int):Option (List Int):=if x0.length=1/\0<=x1/\x1<=1000 then some (List.replicate x1.toNat (x0.getD 0 0)) else none
theorem xYb {y:Int} {n k:Nat} (hk:k<=n):List.replicate (k+min k (n - k)) y++List.replicate (n - (k+min k (n - k))) (0:Int)=(List.replicate k y++List.replicate (n - k) (0:Int)).take k++((List.replicate k y++List.replicate (n - k) (0:Int)).take k).take ((List.replicate k y++List.replicate (n - k) (0:Int)).length - k)++(List.replicate k y++List.replicate (n - k) (0:Int)).drop (k+((List.replicate k y++List.replicate (n - k) (0:Int)).take k).length):=by
 have e1:(List.replicate k y++List.replicate (n - k) (0:Int)).take k=List.replicate k y:=by rw[Cx vK,Cn vK]
 rw[e1];simp only[Ar,Bv];rw[show k+(n - k) - k=n - k by omega,List.take_replicate,List.drop_append,Bv,show k+k - k=k by omega,List.drop_replicate,List.drop_replicate,List.replicate_append_replicate,show k - (k+k)=0 by omega,List.replicate_zero,Bp,Nat.min_comm (n - k) k,show n - (k+min k (n - k))=n - k - k by omega]
set_option maxHeartbeats 1000000 in
theorem rO {B:Nat->Prop} {x0:List Int} {x1:Int} (r:List Int) (hR:qP x0 x1=some r) {v0:Vl} (w0:Wd) (hN:∀ c,B c->c<w0.heap.size) (A0:Bo B w0 (Sl 1 xF) v0 x0) (qf:xM x1) :
 Calls Tryz.prog 162 #[v0,.int .i64 x1] w0 (Gv (λv w'=>∃ (v1':Vl),v=v1'/\Sep [] B w0 w' [rl 1 xF 2 v1' r])):=by
 unfold qP at hR
 split at hR
 rotate_left
 ·cases hR
 rename_i hq;obtain⟨q1,q2,q3⟩:=hq
 obtain⟨y,rfl⟩:∃ y,x0=[y]:=by
  match x0,q1 with
  | [y],_=>exact⟨y,rfl⟩
 obtain⟨n,rfl⟩:∃ n:Nat,x1=n:=⟨x1.toNat,xG⟩;obtain rfl:=Option.some.inj hR;simp only[Ad,Di];refine xQh (L:=[(0,v0),(1,.int .i64 (n:Int))]) Tryz.func162 rfl rfl rfl (sc rfl (sc rfl sn)) (λa F=>?_);have H:=Sep.start hN;refine kQ (bL (uG F rfl rfl λa F=>dM (aU ?_)));refine kQ (kQ (bL (nQ F rfl rfl λa F=>oGs F rfl rfl rfl λa F=>dM (aU (xUz F rfl (show decide ((n:Int)<0)=false by simp) (gT (aU ?_)))))));refine kQ (bL (nQ F rfl rfl λa F=>?_));refine oL Tryz.underlying53 F rfl rfl A0 λa i1 F=>?_;refine oU1 (z:=1) Tryz.underlying3 Tryz.underlying271 F rfl rfl i1 rfl λa F=>?_;refine nQ F rfl rfl λa F=>?_;refine oU1 (z:=(n:Int)) Tryz.underlying3 Tryz.underlying271 F rfl rfl qf (by unfold nn;rw[if_pos q2]) λa F=>?_;refine oG F rfl Tryz.call228 rfl (xUj n xG _) (λa vv w ⟨hv,hw⟩ F=>?_);subst hv;replace hw:=hw.symm;subst hw;refine nQ F rfl rfl λa F=>?_;refine xOj F rfl rfl rfl λa F=>?_;refine xOj F rfl rfl rfl λa F=>?_;refine uG F rfl rfl λa F=>uG F rfl rfl λa F=>dM (aU ?_);refine kQ (kQ (bL (nQ F rfl rfl λa F=>?_)));refine xVn F rfl rfl rfl λa F=>?_;refine nQ F rfl rfl λa F=>?_;have F:=F.eq (t:=23) rfl (show Value.bool (decide ((0:Int)<0))=Value.bool false from rfl);refine nQ F rfl rfl λa F=>?_;refine xVn F rfl rfl rfl λa F=>?_;refine oEh F rfl rfl rfl λa F=>dM (aU (xUz F rfl (show decide ((9223372036854775807:Int)<(n:Int))=false by simp;omega) (gT (aU ?_))));refine kQ (bL (nQ F rfl rfl λa F=>?_));refine oU3 Tryz.underlying271 Tryz.underlying3 F rfl rfl qf λa F=>?_
 have qg:nJ (0:Int) (n:Int)=some (List.replicate n 0):=by
  unfold nJ
  rw[if_pos ⟨q2,xG⟩,Ad]
 refine oRM (sz:=1) (R:=xF) (z:=.int .i64 0) (bytes:=8) Tryz.underlying53 (by kernel_rfl) rfl kS kS (λw=>⟨rfl,kS,rfl⟩) F rfl rfl rfl qg H λa w v H F=>?_;refine uG F rfl rfl λa F=>dM (aU ?_);refine kQ (bL (nQ F rfl rfl λa F=>nQ F rfl rfl λa F=>?_));obtain⟨bs,qh,_⟩:=H.a A0;obtain⟨ib,qd,_⟩:=qh.src kS
 refine oLg (k:=0) (ll:=List.replicate (min 1 n) y++List.replicate (n - min 1 n) 0) Tryz.underlying53 (by kernel_rfl) F rfl rfl rfl H H.tailv (Bi _) qd (by
  cases n with
  | zero=>rfl
  | succ n=>simp [Dk]) λa w H F=>?_
 refine uG F rfl rfl λa F=>dM (aU ?_);simp only[Bv,Fg,Ao,Bh,Bn] at F;refine kQ (pU ?_);refine xQp (λg a w=>∃ k:Nat,k+g=n/\(0<n->0<k)/\Sk a 48 [(8,.int .i64 (k:Int)),(7,v)]/\Sep [] B w0 w [rl 1 xF 2 v (List.replicate k y++List.replicate (n - k) 0)]) (n - min 1 n) ?_ ?_
 ·exact⟨min 1 n,xG,xG,F.sub (sc rfl (sc rfl sn)),H⟩
 intro g a w ⟨k,hkg,hk0,F,H⟩
 have qa:(List.replicate k y++List.replicate (n - k) (0:Int)).length=n:=by simp;omega
 refine kQ (kQ (bL (nQ F rfl rfl λa F=>nQ F rfl rfl λa F=>?_)));refine oL Tryz.underlying53 F rfl rfl (H.l 0 rfl) λa i2 F=>?_;refine oGs F rfl rfl rfl λa F=>dM (aU ?_);rw[qa] at F
 by_cases qc:k<n
 ·refine oGi F rfl (show decide ((k:Int)<(n:Int))=true by simpa using qc) (gT (aU (pU ?_)))
  obtain⟨b,c,hv,hc⟩:=H.shape xG;rw[qa] at hv hc;subst hv;refine xD H (by kernel_rfl) (λw H=>?_);refine xUr 0 rfl (by kernel_rfl) (by kernel_rfl) (by kernel_rfl) ?_;refine fV F rfl (λw l=>yW F rfl) (λa F=>?_);refine xUr 1 rfl (by kernel_rfl) (by kernel_rfl) (by kernel_rfl) ?_;refine fV F rfl (λw l=>yW F rfl) (λa F=>?_);refine xUr 2 rfl (by kernel_rfl) (by kernel_rfl) (by kernel_rfl) ?_;refine fV F rfl (λw l=>yW F rfl) (λa F=>?_);refine b_q 3 (by kernel_rfl) rfl (by kernel_rfl) (by kernel_rfl) (by kernel_rfl) (by kernel_rfl) ?_;refine fV F rfl (λw l=>oCi Tryz.underlying53 Tryz.sizeOf2 F rfl rfl qc hc) (λa F=>?_);refine xUr 4 rfl (by kernel_rfl) (by kernel_rfl) (by kernel_rfl) ?_;refine fV F rfl (λw l=>yW F rfl) (λa F=>?_);refine xUr 5 rfl (by kernel_rfl) (by kernel_rfl) (by kernel_rfl) ?_;refine fV F rfl (λw l=>yW F rfl) (λa F=>?_);refine b_q 6 (by kernel_rfl) rfl (by kernel_rfl) (by kernel_rfl) (by kernel_rfl) (by kernel_rfl) ?_;refine fV F rfl (λw l=>xZs Tryz.underlying53 Tryz.sizeOf2 F rfl rfl (Ae qc) hc) (λa F=>?_);refine xE H 7 rfl (by kernel_rfl) ?_
  have H:Sep [] B w0 w [rl 1 xF 2 (.slice (some ⟨b,0,none⟩) (List.replicate k y++List.replicate (n - k) (0:Int)).length c) (List.replicate k y++List.replicate (n - k) 0)]:=by rw[qa];exact H
  have hs:=H.srcTake (b:=b) (c:=c) (k:=k) (by rw[qa];omega)
  have qe:min ((List.replicate k y++List.replicate (n - k) (0:Int)).take k).length ((List.replicate k y++List.replicate (n - k) (0:Int)).length - k)=min k (n - k):=by rw[Bd,qa];omega
  rw[qa] at H;refine oLg (k:=k) Tryz.underlying53 (by kernel_rfl) F rfl rfl rfl H ⟨_,c - k,by rw[qa],λ_=>⟨b,c,by rw[qa],rfl⟩⟩ (by rw[qa];omega) hs (xYb (Ae qc)) λa w H F=>?_;rw[qe] at F;refine dM (aU ⟨⟨_,H⟩,?_⟩);refine xE H 8 rfl (by kernel_rfl) ?_;refine oAv F rfl rfl rfl (z:=((k+min k (n - k):Nat):Int)) (by rw[Int.natCast_add];exact if_pos ⟨xG,xG⟩) λa F=>?_;refine dM (aU ⟨⟨_,H⟩,?_⟩);refine xE H 9 rfl (by kernel_rfl) ?_;refine uG F rfl rfl λa F=>dM (aU ⟨⟨_,H⟩,?_⟩);refine oGh (by kernel_rfl) ?_;refine xNc ?_;exact⟨n - (k+min k (n - k)),xG,k+min k (n - k),xG,xG,F.sub (sc rfl (sc rfl sn)),H⟩
 ·refine xUz F rfl (show decide ((k:Int)<(n:Int))=false by simpa using qc) (xDw (xNa (xNa (xUw (aU ?_)))))
  obtain rfl:k=n:=xG;refine kQ (bL (nQ F rfl rfl λa F=>uG F rfl rfl λa F=>dM (aU ?_)));refine uZ ?_;refine xPw F rfl (oMd F rfl) ?_;rw[Em,List.replicate_zero,Ch] at H;exact⟨_,rfl,_,rfl,H⟩
end
section
open Go.RowKit
theorem aX {B x0 x1} (r:List Int) (hR:qP x0 x1=some r) {v0} (w0:Wd) (hN:∀ c,B c->c<w0.heap.size) (A0:Bo B w0 (Sl 1 xF) v0 x0) (qa:xM x1):Calls Tryz.prog 162 #[v0,.int .i64 x1] w0 (Gt B w0 [] (.v λv1'=>.st v1' λD=>rl 1 xF 2 v1' r::D)):= (rO r hR w0 hN A0 qa).mono λe w' ⟨v,h1,v1,h2,h3⟩=>⟨v1,h1.trans (congrArg _ h2),h3,λ_=>rfl⟩
end
section
open Go.RowKit
theorem gX {B v0} (h0:v0.oneCell'=true) (w0:Wd) (hN:∀ c,B c->c<w0.heap.size):Calls Tryz.prog 164 #[v0] w0 (Gt B w0 [] (.st (.agg #[.int .i64 0,v0,.slice none 0 0,.slice none 0 0,.slice none 0 0]) λD=>D)):=by
 refine xQh (L:=[(0,v0)]) Tryz.func164 rfl rfl rfl (sc rfl sn) (λa F=>?_);have H:=Sep.start hN;refine kQ ?_;refine bL ?_;refine oA Tryz.zeroValue57 F rfl rfl H (λa w b11 H F=>?_);refine dM ?_;refine aU ?_;refine kQ ?_;refine bL ?_;refine nQ F rfl rfl (λa F=>?_);refine xVb Tryz.underlying57 Tryz.zeroValue57 (λw=>by simp [Tryz.sizeOf2,Tryz.sizeOf53,Tryz.sizeOf54,Tryz.sizeOf55];rfl) F rfl rfl rfl rfl rfl (oc rfl (oc h0 on)) rfl rfl (λa F=>?_);refine oWA (vs:=[.int .i64 0,v0,(.slice none 0 0),(.slice none 0 0),(.slice none 0 0)]) Tryz.sizeOf57 F rfl rfl rfl H (oc rfl (oc h0 (oc rfl (oc rfl (oc rfl on))))) rfl rfl (λw H=>?_);refine dM ?_;refine aU ?_;refine uZ ?_;refine xPw F rfl (oGr (arr:=#[.int .i64 0,v0,(.slice none 0 0),(.slice none 0 0),(.slice none 0 0)]) F Tryz.isAgg57 Tryz.sizeOf57 rfl (H.b 0 rfl)) ?_;exact⟨rfl,(H.s [] rfl rfl),λ_=>rfl⟩
end
section
open Go.RowKit
variable {fi:FuncId}
section
variable {P:Program} {ops:Array Oper} {Q:Exit->Act->Wd->Prop} {n:Nat} {X:List Nat} {N:Nat->Prop} {w0 w1:Wd} {L:List (Nat×Vl)} {D:List As} {ρ:Type} {tt:Option ρ} {CC:ρ->Prop} {G:Act->Wd->Prop} {rest:List Oper} {d:Nat} {ty:Ty} {pos:String} {af:Array Edge} {g:Option (Nat×Bool)}
theorem jspl {α:Type} {sz:Nat} {R:ER α} [hR:FrC sz R] {E:Ty} {v:Vl} {l:List α} {M:Nat->Prop} (kt:∀ w1 X1 N1,Sm N w0 w1->Lf N w0 N1 w1->((∀ {w':Wd} {K:List As},Sep X1 N1 w1 w' K->(∀ B∈K,∀ c,B.N c->N c)->Sep X N w0 w' K)/\(N=N)/\(∀ c,N c->N1 c))->(∀ {f:(Nat->Prop)->As},Ab f->∀ {w':Wd} {K:List As},Sep X1 N1 w1 w' (f N1::K)->(∀ B∈K,∀ c,B.N c->N c)->Sep X N w0 w' (f N::K))->J n X1 N1 w1 L (rz N1 sz R E v l::D) tt CC G):J n X N w0 L (rw M sz R E v l::D) tt CC G:=⟨λa w F H xq h1 h2=>
 let ⟨X1,N1,e,H1,th,ab⟩:=H.spl
 (kt w X1 N1 H.sm e th ab).h a w F H1 xq h1 h2⟩
theorem jkoV (m:Nat) {c} {lb} {xs} {at'} {vs} {Kd E} {I} (hf:∀ args w,(callFunc fi args).run P w= .ok (.enter fi args) w) (hh:ev L c=some (.func (.func fi) #[] lb.toArray)/\evs L xs=some vs) [hm:Spl m D Kd E] (cl:∀ {w X1},Sep X1 N w w Kd->Sep X N w0 w D->Calls P fi (vs++lb).toArray w (Gt N w X1 I)) (kt:I.all λv h=>J n X N w0 ((d,v)::L) (h E) tt CC (wpList P ops Q rest)) (hc:vR ops n L g d=true:=by rfl):J n X N w0 L D tt CC (wpList P ops Q (⟨some d,.call ⟨.value c,xs.toArray,at'⟩,ty,pos,af,g⟩::rest)):=⟨λa w F H xq h1 h2=>by
 obtain⟨X1,S1,bk⟩:=Sep.lend (K:=Kd) (L:=E) (hm.h ▸ H)
 exact oGV F hc hh.1 hf hh.2 ((cl S1 H).mono (λe w' h=>h.gv)) (λa' v w' hv F'=>hv.go kt (λu f hu hj=>by
  obtain⟨rfl,S,qa⟩:=hu
  exact hj.h a' w' F' (by rw[qa E];exact bk S) xq h1 h2))⟩
theorem gz1 {b vs w M i1 i2} (hb:b=true) (h:Calls P fi vs w (Gt M w X (bif b then i1 else i2))):Calls P fi vs w (Gt M w X i1):=by subst hb;exact h
theorem gz2 {b vs w M i1 i2} (hb:b=false) (h:Calls P fi vs w (Gt M w X (bif b then i1 else i2))):Calls P fi vs w (Gt M w X i2):=by subst hb;exact h
end
end
section
set_option maxHeartbeats 1000000
set_option maxRecDepth 100000
open Go.RowKit
variable {B:Nat->Prop}
def kF (c:List Int):Option (List Int):= xH (ap ([]) c) λd=>some d
theorem dP {f} {c} {d} (hN:HN B d) (h:Bo B d (Sl 1 xF) c f):∀ r,kF f=some r->CG B d 182 #[c] (.v λe=>.st (e) λD=>rl 1 xF 2 e r::D):=by
 refine vW Tryz.func182 [(0,c)] hN λr=>?_;refine xK rfl (jR0 xF λ_=>jo rfl (jB λj i=>(jh (λH=>H.lw) (jPf (λH=>H.a h) i λp=>jh (λH=>H.tl) (xX rfl ?_)))));exact j1 (rt rfl) ⟨_,lv⟩
def tC (c:B3):Option (List B2):= qD (σ:=List B2) (oM (λd (e:A8) h=>xH (kF e.left) λi=>xH (nJ (0:Int) (c.list.length:Int)) λf=>xH (ix f (d:Int)) λt=>xH (ap h ([(B2.mk i e.right (f.set ((d:Int)).toNat 1))])) λj=>some (.go j)) c.list 0 []) λp=>some p
theorem xJx {y} {h} {z} (hN:HN B z) (e:Bo B z (Pt 3 oZ) h y):∀ r,tC y=some r->CG B z 201 #[h] (.v λX=>.st (X) λD=>rl 3 qO 194 X r::D):=by
 refine vW Tryz.func201 [(0,h)] hN λr=>?_;refine xK rfl (jR0 qO λv1=>xI rfl (xA rfl (vA (λs1=>.v λL=>.st [(3,L)] [rl 3 qO 194 L s1]) ?_ (λ_ L=>?_))))
 ·
  refine zH ?_;refine jl (λp i=>.v λc=>.st [(4,xB (p:Int)),(0,h),(3,c)] [rl 3 qO 194 c i]) ⟨_,ls⟩ (λ_ i _ q1 c=>?_) (λp d i F Z c=>?_)
  ·have l1:=oO q1;refine xV (jA 2 rfl (jN e (kZ e oZ.f2 λ_ h1=>aT h1 λ_ h2=>jL h2 λ_=>xA rfl (zX l1 (xP ?_)))));exact jf ⟨_,ls⟩
  refine xV (jA 2 rfl (jN e (kZ e oZ.f2 λ_ h3=>aT h3 λ_ h4=>jL h4 λi1=>xA rfl (kA (xZ F) (oJ ?_)))));have j2:=bV (Ae F) i1;refine sJ (jB λj A=>(jB λC E=>(jD ?_)));refine jdp (f:=1) (ls:=(bi 26 33554431)) (.n λb1=>.v λM=>.v λN=>.fa (xM d.right) <| .st [(0,h),(3,c),(4,xB (p:Int)),(5,oU b1),(39,(.agg #[M,xB d.right,N]))] [bx b1 [aB,xB 0,aB] 194,rl 1 xF 2 M j,rl 1 xF 2 N C,rl 3 qO 194 c i]) (λ_ M N i2=>?_) (λH1=>?_)
  ·refine jE 25 rfl ?_;refine kG (hv:=(λH=>oc (H.l 1 rfl).one (oc rfl (oc (H.l 2 rfl).one on)))) e3 (qT (gV (oQ (oH e2 (jb 0 e3 (jo rfl (jB λz3 c3=>(jRl 2 c3 λ_ a9=>js [2,0,1,3] rfl (jh (λH=>H.lw) (jS a9 (cI c3) (λH=>Eo.int zD) rfl (jh (λH=>H.tl) (eR (jo rfl ?_)))))))))))));refine aH 1 e3 (js [2,0,1,3] rfl (jh (λH=>qO.w i2 H) (tD (λH=>El.agg) λ_=>jB λz4 c4=>(js [2,0,1] rfl (jPL c4 λv6=>zL 1 rfl (jo rfl (oE (qE F i1) (xA rfl (js [0] rfl ?_)))))))));exact jg ⟨_,ls⟩
  refine jdp (f:=2) (ls:=(bi 26 25165823)) (.n λO=>.v λP=>.v λQ=>.fa (xM d.right) <| .st [(0,h),(3,c),(4,xB (p:Int)),(5,oU O),(24,P),(32,xB d.right),(38,Q)] [bx O [aB,xB 0,aB] 194,rl 1 xF 2 P j,rl 1 xF 2 Q C,rl 3 qO 194 c i]) (λO P Q i3=>?_) (λS=>?_)
  ·refine jE 23 rfl ?_;refine qC (hone:=(λH=>oc (H.l 1 rfl).one (oc rfl (oc (H.l 2 rfl).one on)))) e5 (qT ?_);exact H1 ⟨_,_,_,i3,ls⟩
  refine jdp (f:=3) (ls:=(bi 26 8388607)) (.v λT=>.v λG=>.fa (xM d.right) <| .st [(0,h),(3,c),(4,xB (p:Int)),(24,T),(32,xB d.right),(38,G)] [rl 1 xF 2 T j,rl 1 xF 2 G C,rl 3 qO 194 c i]) (λT G i4=>?_) (λH3=>?_)
  ·
   refine dV (λH=>H) 23 24 rfl rfl ?_ ?_
   ·refine qC (hone:=(λH=>oc (H.l 0 rfl).one (oc rfl (oc (H.l 1 rfl).one on)))) e5 (qT (jE 24 rfl (aM rfl λb3=>qT ?_)));exact H1 ⟨_,_,_,i4,ls⟩
   refine aM rfl λb4=>qT ?_;exact S ⟨_,_,_,i4,ls⟩
  refine jdp (f:=3) (ls:=(bi 26 20971519)) (.n λU=>.v λI=>.fa (xM d.right) <| .fa (xM (y.list.length:Int)) <| .st [(0,h),(3,c),(4,xB (p:Int)),(5,oU U),(24,I),(32,xB d.right),(37,xB (y.list.length:Int))] [bx U [aB,xB 0,aB] 194,rl 1 xF 2 I j,rl 3 qO 194 c i]) (λU I i5 _=>?_) (λH4=>?_)
  ·refine jE 22 rfl ?_;refine jRM (R:=xF) (λw=>⟨rfl,kS,rfl⟩) E λb0=>qT (js [1,2,0,3] rfl ?_);exact S ⟨_,_,_,i5,ls⟩
  refine jdp (f:=3) (ls:=(bi 26 25165567)) (.n λW=>.v λY=>.v λK=>.fa (Bo B z (Sl 1 xF) Y d.left) <| .fa (xM d.right) <| .st [(0,h),(3,c),(4,xB (p:Int)),(5,oU W),(23,Y),(32,xB d.right),(38,K)] [bx W [aB,xB 0,aB] 194,rl 1 xF 2 K C,rl 3 qO 194 c i]) (λW _ K h5 i6=>?_) (λH5=>?_)
  ·refine jE 8 rfl (jk (λH=>dP aA (H.a h5) j A) λv16=>qT (js [1,0,2,3] rfl ?_));exact S ⟨_,_,_,i6,ls⟩
  refine zG [0] rfl (jvN 1 rfl e (gR 2 rfl e oZ.f2 λ_ h6=>rB 3 rfl h6 λ_ h7=>zG [4] rfl (nM 5 rfl h7 Z λ_ h8=>gR 6 rfl h8 xL.f0 λ_ h9=>rB 7 rfl h9 λb2 x=>zG [9] rfl (jvN 10 rfl e (gR 11 rfl e oZ.f2 λ_ aa=>rB 12 rfl aa λ_ ab=>zG [13] rfl (nM 14 rfl ab Z λ_ ac=>gR 15 rfl ac xL.f1 (λ_ ad=>?_)))))));refine aY 16 rfl ad λt=>zG [17] rfl (jvN 18 rfl e (gR 19 rfl e oZ.f2 λ_ ae=>rB 20 rfl ae λ_ af=>jvL 21 rfl af λi8=>xKp (λH=>H) 8 22 24 rfl rfl rfl ?_ ?_ ?_))
  ·
   refine jk (λH=>dP aA (H.a x) j A) λv18=>qT (dV (λH=>H) 22 24 rfl rfl ?_ ?_)
   ·refine jRM (R:=xF) (λw=>⟨rfl,kS,rfl⟩) E λv19=>qT (js [1,0,2] rfl ?_);exact H3 ⟨_,_,t,ls⟩
   refine aM rfl λb7=>qT ?_;exact H4 ⟨_,_,t,i8,ls⟩
  ·
   refine jRM (R:=xF) (λw=>⟨rfl,kS,rfl⟩) E λb5=>qT (dV (λH=>H) 8 24 rfl rfl ?_ ?_)
   ·refine jk (λH=>dP aA (H.a x) j A) λb6=>qT ?_;exact H3 ⟨_,_,t,ls⟩
   refine aM rfl λb8=>qT ?_;exact H5 ⟨_,_,_,x,t,ls⟩
  refine aM rfl λb9=>qT (dV (λH=>H) 8 22 rfl rfl ?_ ?_)
  ·refine jk (λH=>dP aA (H.a x) j A) λv22=>qT (js [1,0,2] rfl ?_);exact H4 ⟨_,_,t,i8,ls⟩
  refine jRM (R:=xF) (λw=>⟨rfl,kS,rfl⟩) E λv23=>qT (js [1,0,2] rfl ?_);exact H5 ⟨_,_,_,x,t,ls⟩
 refine oQ (qZ 2 rfl ?_);exact j1 (rt rfl) ⟨_,lv⟩
def kR (c d e:Int):Option Bool:= qD (σ:=Bool) (if (decide (d<=c)) then some (.nx (decide (c<=e))) else some (.nx false)) λf=>some f
theorem kM {c d e} {f} (hN:HN B f) (i:xM c) (j:xM d) (p:xM e):∀ r,kR c d e=some r->CG B f 33 #[xB c,xB d,xB e] (sB r):=by
 refine vW Tryz.func33 [(0,xB c),(1,xB d),(2,xB e)] hN λr=>?_;refine xR rfl (vA (λh=>.st [(6,.bool h)] []) ?_ (λ_=>?_))
 ·
  refine iQ (jA 4 rfl (dZ 10 (λ_=>?_) (λ_=>?_)))
  ·exact oD 5 rfl (jf ls)
  exact oD 5 rfl (jf ls)
 exact lY (qJ lv)
def fP (c:Int):Option Bool:= qD (σ:=Bool) (if (c==2) then some (.nx true) else some (.nx (c==3))) λd=>some d
theorem rY {c} {d} (hN:HN B d) (f:xM c):∀ r,fP c=some r->CG B d 80 #[xB c] (sB r):=by
 refine vW Tryz.func80 [(0,xB c)] hN λr=>?_;refine xR rfl (vA (λe=>.st [(2,.bool e)] []) ?_ (λ_=>?_))
 ·
  refine iQ (jA 3 rfl (dZ 5 (λ_=>?_) (λ_=>?_)))
  ·exact oD 4 rfl (jf ls)
  exact oD 4 rfl (jf ls)
 exact lY (qJ lv)
def kX (d c:Int):Option Int:= xH (rm d c) λe=>xH (ck (e+c)) λf=>xH (rm f c) λh=>some h
theorem iL {c d} {f} (hN:HN B f) (p:xM c) (i:xM d):∀ r,kX c d=some r->CG B f 129 #[xB c,xB d] (sI r):=by
 refine vW Tryz.func129 [(0,xB c),(1,xB d)] hN λr=>?_;refine xK rfl (jA 2 rfl (jB λt j=>(xOs j (jo rfl (jB λx h=>(kE h (jo rfl (jB λy e=>(xOs e (xX rfl ?_))))))))));exact qJ ⟨(xHh e (zI h) i),lv⟩
def lH (d e:Int) (c:A8):Option Bool:= qD (σ:=Bool) (if ((c.left.length:Int) != e) then some (.nx true) else xH (ck (d - 1)) λf=>xH (kR c.right 0 f) λh=>some (.nx (!h))) λi=>if i then some false else qD (σ:=Unit) (oM (λx (j:Int) s=>match s with | _=>xH (ck (d - 1)) λp=>xH (kR j 0 p) λt=>if (!t) then some (.ret false) else some (.go ())) c.left 0 ()) λ_=>some true
theorem xEj {d f j} {e} {i} (hN:HN B i) (X:xM d) (Y:xM f) (c:Bo B i (Pt 2 xL) e j):∀ r,lH d f j=some r->CG B i 200 #[xB d,xB f,e] (sB r):=by
 refine vW Tryz.func200 [(0,xB d),(1,xB f),(2,e)] hN λr=>?_;refine jo rfl (gL (vA (λA=>.st [(0,xB d),(2,e),(24,.bool A)] []) ?_ (λ_=>?_)))
 ·
  refine iQ (jo rfl (jN c (kZ c xL.f0 λ_ C=>aT C λ_ D=>jL D λ_=>jA 3 rfl (dZ 15 (λ_=>?_) (λ_=>?_)))))
  ·exact oD 9 rfl (jf ls)
  exact jo rfl (jN c (kZ c xL.f1 λ_ E=>aJ E λF=>jo rfl (jB λZ p=>(fR p (jB λG I=>(jk (λH=>kM aA F xU (zI p) G I) (oD 2 rfl (jf ls))))))))
 refine dA (xW ?_ ?_)
 ·exact xN (xT rfl (qJ lv))
 refine qY (xA rfl (vA (λ_=>.st [] []) ?_ (λ_=>?_)))
 ·
  refine zH (jl (λt _=>.st [(7,xB (t:Int)),(0,xB d),(2,e)] []) ls (λ_ _ _ K=>?_) (λt _ _ h L=>?_))
  ·have M:=oO K;exact xV (jA 2 rfl (jN c (kZ c xL.f0 λ_ N=>aT N λ_ O=>jL O λ_=>xA rfl (zX M (xP (jf ls))))))
  refine xV (jA 2 rfl (jN c (kZ c xL.f0 λ_ P=>aT P λ_ Q=>jL Q λx=>xA rfl (kA (xZ h) (oJ ?_)))));have j1:=bV (Ae h) x;refine qH (jo rfl (jN c (kZ c xL.f0 λ_ R=>aT R λ_ S=>jo rfl (jI S L λ_ z=>aJ z λT=>jo rfl (jB λz3 y=>(fR y (jB λU W=>(jk (λH=>kM aA T xU (zI y) U W) (xA rfl ?_)))))))));refine xW ?_ ?_
  ·exact xN (qA 1 rfl (dB (zC (cV (eT (qJ lv))))))
  exact qM (jo rfl (oE (qE h x) (xA rfl (jg ls))))
 exact oQ (xX rfl (qJ lv))
def uB (c:B3):Option Bool:= qD (σ:=Bool) (xH (fP c.prime) λd=>if (!d) then some (.nx true) else xH (kR c.unknowns 1 12) λe=>if (!e) then some (.nx true) else some (.nx (decide (24<(c.list.length:Int))))) λf=>if f then some false else qD (σ:=Unit) (oM (λj (h:A8) s=>match s with | _=>xH (lH c.prime c.unknowns h) λi=>if (!i) then some (.ret false) else some (.go ())) c.list 0 ()) λ_=>some true
theorem xEy {h} {d} {f} (hN:HN B f) (c:Bo B f (Pt 3 oZ) d h):∀ r,uB h=some r->CG B f 139 #[d] (sB r):=by
 refine vW Tryz.func139 [(0,d)] hN λr=>?_;refine jo rfl (gL (vA (λz=>.st [(0,d),(25,.bool z)] []) ?_ (λ_=>?_)))
 ·
  refine iQ (jo rfl (jN c (kZ c oZ.f0 λ_ A=>aJ A λC=>jB λD E=>(jk (λH=>rY aA C D E) (jA 2 rfl (dZ 10 (λ_=>?_) (λ_=>?_)))))))
  ·exact oD 15 rfl (jf ls)
  refine jo rfl (jN c (kZ c oZ.f1 λ_ F=>aJ F λG=>jB λI K=>(jk (λH=>kM aA G zD xZf I K) (jA 3 rfl (dZ 18 (λ_=>?_) (λ_=>?_))))))
  ·exact oD 7 rfl (jf ls)
  exact jo rfl (jN c (kZ c oZ.f2 λ_ L=>aT L λ_ M=>jL M λ_=>oD 2 rfl (jf ls)))
 refine dA (xW ?_ ?_)
 ·exact xN (xT rfl (qJ lv))
 refine qY (xA rfl (vA (λ_=>.st [] []) ?_ (λ_=>?_)))
 ·
  refine zH (jl (λi _=>.st [(3,xB (i:Int)),(0,d)] []) ls (λ_ _ _ N=>?_) (λi _ _ e O=>?_))
  ·have P:=oO N;exact xV (jA 2 rfl (jN c (kZ c oZ.f2 λ_ Q=>aT Q λ_ R=>jL R λ_=>xA rfl (zX P (xP (jf ls))))))
  refine xV (jA 2 rfl (jN c (kZ c oZ.f2 λ_ S=>aT S λ_ T=>jL T λj=>xA rfl (kA (xZ e) (oJ ?_)))));have j1:=bV (Ae e) j;refine sJ (jQ (vY 1 rfl (jqN c (cA c oZ.f0 λ_ U=>kN U λW=>vY 1 rfl (jqN c (cA c oZ.f1 λ_ p=>kN p λX=>vY 1 rfl (jqN c (cA c oZ.f2 λ_ t=>eN t λ_ x=>vY 1 rfl ?_))))))));refine gU x O λ_ y=>jB λY Z=>(jqk (λH=>xEj aA W X (H.a y) Y Z) (vY 1 rfl (lE (dA (xW ?_ ?_)))))
  ·exact xN (qA 1 rfl (dB (zC (cV (eT (qJ lv))))))
  exact qM (jo rfl (oE (qE e j) (xA rfl (jg ls))))
 exact oQ (xX rfl (qJ lv))
def dS (d:List B2) (c:Int):Option Int:= qD (σ:=Unit) (qU (λe s=>match s with | _=>xH (ix d (c+(e:Int))) λf=>if (f.right != 0) then some (.ret ((c+(e:Int)))) else some (.go ())) ((d.length:Int) - c).toNat 0 ()) λ_=>some ((-1))
theorem sD {j c} {e} {f} (hN:HN B f) (h:Bo B f (Sl 3 qO) e j) (i:xM c):∀ r,dS j c=some r->CG B f 141 #[e,xB c] (sI r):=by
 refine vW Tryz.func141 [(0,e),(1,xB c)] hN λr=>?_;refine xI rfl (oD 2 rfl (vA (λ_=>.st [] []) ?_ (λ_=>?_)))
 ·
  refine zH (jev 5 (show Value.int .i64 c=Value.int .i64 (c+((0:Nat):Int)) by rw[Int.ofNat_zero,Int.add_zero]) (jc (λp _=>.st [(5,xB (c+(p:Int))),(0,e)] []) ls (λ_ _ _ d=>?_) (λ_ p _ d=>?_)))
  ·have x:=yF d;exact xV (jA 2 rfl (jL h λ_=>xA rfl (zX x (xP (jf ls)))))
  refine xV (jA 2 rfl (jL h λt=>xA rfl (kA (tG d) (oJ (qH (jA 2 rfl (jB λC y=>(jI h y λ_ z=>kZ z qO.f1 λ_ A=>aJ A λ_=>xA rfl ?_))))))));refine xW ?_ ?_
  ·refine xN (qA 2 rfl (dB (zC (cV (eT ?_)))));exact qJ ⟨(xWn d i t),lv⟩
  exact qM (jo rfl (xDv (xHr d i t) (xA rfl (jg ls))))
 refine oQ (xX rfl ?_);exact qJ ⟨kV,lv⟩
end
section
open Go.RowKit
variable {iy:Operand} {x:Operand}
def rc {α:Type} (sz:Nat) (R:ER α) [hR:FrC sz R] (cs:List Vl) (m:List (Option α)):As:= ⟨N0,λw Y=>∃ bss:List (List Nat),bss.length=m.length/\Own 0 bss.flatten w/\(∀ c∈bss.flatten,c∈Y)/\∀ i x bi,m[i]?=some (some x)->bss[i]?=some bi->R w (λj=>cs[i*sz+j]?) x bi,λ{w w' Y} h h1 _ hs=>by
 obtain⟨bss,h3,h4,h5,h6⟩:=h
 exact⟨bss,h3,h4.same (λc hc=>h1 c (h5 c hc)),h5,λi x bi hx hi=>hR.fr _ _ _ _ _ _ (h6 i x bi hx hi) (λc hc=>h1 c (h5 c (Bl.2 ⟨bi,Af hi,hc⟩))) (λ_ _=>rfl)⟩⟩
def cl (cs:List Vl) (sz i:Nat):List Vl:=(cs.drop (i*sz)).take sz
theorem mY {cs sz i j} (h:j<sz):(cl cs sz i)[j]?=cs[i*sz+j]?:=by
 unfold cl;rw[Bf,if_pos h,Dv]
theorem xAz {cs sz i n} (h:i<n) (hn:n*sz<=cs.length):(cl cs sz i).length=sz:=by
 unfold cl
 have:(i+1)*sz<=n*sz:=Ax _ h;rw[Ct] at this;simp only[Bd,Dq];omega
section
variable {X:List Nat} {N:Nat->Prop} {w0 w:Wd} {D:List As} {A B:As} {α:Type} {sz:Nat} {R:ER α} [hR:FrC sz R] {E:Ty} {v:Vl} {l:List α}
theorem Sep.imp (H:Sep X N w0 w (A::D)) (h:∀ {Y},A.P w Y->(∀ c∈Y,c<w.heap.size)->B.P w Y) (hN:∀ c,B.N c->N c):Sep X N w0 w (B::D):=by
 obtain⟨Y,hP,_,hY,tr⟩:=H.hd;exact tr (Z:=[]) (λ_ h=>nomatch h) (B5.refl _ _) (B:=B) (Y1:=Y) (h hP (λc hc=>(hY c hc).1)) hN (λc hc=>⟨.inl hc,(hY c hc).1⟩)
structure Vw (v:Vl) (g n c:Nat) (sz:Nat) (cs:List Vl):Prop where
  e:v= .slice (some ⟨g,0,none⟩) n c
  h:n<=c/\c<=maxLen/\cs.length=c*sz
theorem Vw.le {v g n c cs} (h:Vw v g n c sz cs):n*sz<=cs.length:=by rw[h.h.2.2];exact Ax _ h.h.1
theorem Sep.opn (H:Sep X N w0 w (rl sz R E v l::D)) (hl:0<l.length):∃ u:Nat×Nat×List Vl,Sep X N w0 w (bx u.1 u.2.2 E::rc sz R u.2.2 (l.map some)::D)/\Vw v u.1 l.length u.2.1 sz u.2.2:=by
 obtain⟨Y0,⟨rb0,ib0,r0,_⟩,_⟩:=H.hd;obtain⟨xs,bss,ho,hbl,hfl,he⟩:=r0.row
 rcases ho.2 with ⟨rfl,h0⟩ | ⟨g,cap,cur,hv,h1,h2,h3,h4,h5,h6⟩
 ·omega
 refine⟨(g,cap,cur.toList),Sep.um (H.imp (B:=pr (bx g cur.toList E) (rc sz R cur.toList (l.map some))) (λ{Y} hP hY=>?_) (λc hc=>hc.elim (λh=>h.elim) (λh=>h.elim))),hv,h3,h4,vV h5⟩;obtain⟨rb,ib,r,o,hrb,qd⟩:=hP;have hh:=r.hrb;subst hv
 simp [uA,Value.ownBlock] at hh
 subst hh;obtain⟨xs2,bss2,qe,qc,qa,qf⟩:=r.row
 rcases qe.2 with ⟨h,_⟩ | ⟨g2,cap2,cur2,qg,k1,k2,k3,k4,k5,k6⟩
 ·cases h
 cases qg
 rw[h2] at k2
 cases k2
 refine⟨[g],ib,⟨by simpa [lG] using h2,vK⟩,⟨bss2,vV qc,qa ▸ o,λc hc=>qa ▸ hc,λi x bi hx hi=>?_⟩,r.dj,hrb,qd⟩;rw[Bc,Eb] at hx;obtain⟨y,hy,qh⟩:=hx
 cases qh
 refine hR.fr _ _ _ _ _ _ (qf i x bi hy hi) (λ_ _=>rfl) (λj hj=>?_);have qi:i<l.length:=(Ac.1 hy).1;have hm:(i+1)*sz<=l.length*sz:=Ax _ qi;rw[Ct] at hm;rw[<- k6,Bf,if_pos xG]
theorem Sep.cls {g c cs} (H:Sep X N w0 w (bx g cs E::rc sz R cs (l.map some)::D)) (hv:Vw v g l.length c sz cs):Sep X N w0 w (rl sz R E v l::D):=by
 refine H.mg.imp (λ{Y} hP hY=>?_) (λc hc=>hc.elim);obtain⟨Y1,Y2,⟨h1,h2⟩,⟨bss,h3,h4,h5,h6⟩,dj,y1,y2⟩:=hP;obtain⟨rfl,k1,k2,k3⟩:=hv;refine⟨[g],bss.flatten,⟨⟨cs.take (l.length*sz),bss,⟨?_,.inr ⟨g,c,cs.toArray,rfl,Bi _,h1,k1,k2,vV k3,vK⟩⟩,vV h3,rfl,λi x bi hx hi=>?_⟩,rfl,h4.inMem,λb hb qa=>?_⟩,h4,λb hb=>?_,λb hb=>y2 b (h5 b hb)⟩
 ·rw[Bd,k3];exact Fa (Ax _ k1)
 ·refine hR.fr _ _ _ _ _ _ (h6 i x bi (by rw[Bc,hx];rfl) hi) (λ_ _=>rfl) (λj hj=>?_)
  have qc:i<l.length:=(Ac.1 hx).1;have hm:(i+1)*sz<=l.length*sz:=Ax _ qc;rw[Ct] at hm;rw[Bf,if_pos xG]
 ·simp at hb;subst hb;exact dj _ h2 (h5 _ qa)
 ·simp at hb;subst hb;exact y1 _ h2
theorem Sep.tk {cs m} (H:Sep X N w0 w (rc sz R cs m::D)) (i:Nat) {x} (hi:m[i]?=some (some x)) (hl:(cl cs sz i).length=sz):Sep X N w0 w (ow (V:=qR sz R) (.agg (cl cs sz i).toArray) x::rc sz R cs (m.set i none)::D):=by
 refine Sep.um (H.imp (B:=pr (ow (V:=qR sz R) (.agg (cl cs sz i).toArray) x) (rc sz R cs (m.set i none))) (λ{Y} hP hY=>?_) (λc hc=>hc.elim (λh=>h.elim) (λh=>h.elim)));obtain⟨bss,h3,h4,h5,h6⟩:=hP
 have qa:i<bss.length:=by rw[h3];exact(Ac.1 hi).1
 have qe:=Aa qa;have qc:=uN h4.1 qe;have qd:∀ c∈bss[i],c∈bss.flatten:=λc hc=>Bl.2 ⟨_,Bs qa,hc⟩
 refine⟨bss[i],(bss.set i []).flatten,⟨bss[i],⟨⟨_,hl,rfl,hR.fr _ _ _ _ _ _ (h6 i x _ hi qe) (λ_ _=>rfl) (λj hj=>mY hj)⟩,λc hc=>hY c (h5 c (qd c hc))⟩,⟨qc.1,λc hc=>h4.2 c (qd c hc)⟩,λ_ h=>h⟩,⟨bss.set i [],vV h3,⟨qc.2.1,λc hc=>h4.2 c (eZ hc)⟩,λ_ h=>h,λj y bj hy hj=>?_⟩,qc.2.2,λc hc=>h5 c (qd c hc),λc hc=>h5 c (eZ hc)⟩
 by_cases e:j=i
 ·subst e;rw[Ai (by rw[<- h3];exact qa)] at hy;cases hy
 ·rw[Ak (λh=>e h.symm)] at hy hj;exact h6 j y bj hy hj
theorem xFo {bss:List (List Nat)} {i:Nat} {bi:List Nat} {w:Wd} (h:Own 0 bss.flatten w) (hi:bss[i]?=some []) (k:Own 0 bi w) (d:Dj bi bss.flatten):Own 0 (bss.set i bi).flatten w/\∀ c∈(bss.set i bi).flatten,c∈bi∨c∈bss.flatten:=by
 obtain⟨hl,he⟩:=Ac.1 hi
 have e:bss.flatten=(bss.take i).flatten++(bss.drop (i+1)).flatten:=by
  have e:bss=bss.take i++[]::bss.drop (i+1):=by rw[<- he,<- Bt hl,Ei]
  have:=congrArg List.flatten e
  simpa only [Eg,List.flatten_cons,Bp] using this
 have e2:(bss.set i bi).flatten=(bss.take i).flatten++(bi++(bss.drop (i+1)).flatten):=by rw[List.set_eq_take_append_cons_drop,if_pos hl];simp only[Eg,List.flatten_cons]
 rw[e] at h d;rw[e2,e]
 have hm:∀ c,c∈(bss.take i).flatten++(bi++(bss.drop (i+1)).flatten)->c∈bi∨c∈(bss.take i).flatten++(bss.drop (i+1)).flatten:=λc hc=>by
  simp only[Aj] at hc ⊢;rcases hc with h | h | h<;>simp [h]
 refine⟨⟨?_,λc hc=>(hm c hc).elim (k.2 c) (h.2 c)⟩,hm⟩;have hn:=Ci.1 h.1;refine Ci.2 ⟨hn.1,Ci.2 ⟨k.1,hn.2.1,λa ha b hb e=>d a ha (Bm _ (e ▸ hb))⟩,λa ha b hb e=>?_⟩
 rcases Aj.1 hb with h1 | h1
 ·exact d b h1 (Bq _ (e ▸ ha))
 ·exact hn.2.2 a ha b h1 e
theorem Sep.pt {cs vs:List Vl} {m:List (Option α)} {i:Nat} {x:α} (H:Sep X N w0 w (ow (V:=qR sz R) (.agg vs.toArray) x::rc sz R cs m::D)) (hi:m[i]?=some none) (hv:vs=cl cs sz i):Sep X N w0 w (rc sz R cs (m.set i (some x))::D):=by
 refine H.mg.imp (λ{Y} hP hY=>?_) (λc hc=>hc.elim);obtain⟨Y1,Y2,⟨bi,⟨⟨cs2,k1,k2,k3⟩,_⟩,k4,k5⟩,⟨bss,h3,h4,h5,h6⟩,dj,y1,y2⟩:=hP
 have e2:cs2=vs:=by have:=congrArg Value.cells k2;simp [Value.cells] at this;exact this.symm
 subst e2;have qc:=(Ac.1 hi).1
 have qa:i<bss.length:=by rw[h3];exact qc
 have qd:=uN h4.1 (Aa qa);have qe:Own 0 (bss.set i []).flatten w:=⟨qd.2.1,λc hc=>h4.2 c (eZ hc)⟩;have hf:=xFo (bss:=bss.set i []) (i:=i) (bi:=bi) qe (Ai qa) k4 (λc hc qf=>dj c (k5 c hc) (h5 c (eZ qf)));rw[Ed] at hf;refine⟨bss.set i bi,by simp [h3],hf.1,λc hc=>(hf.2 c hc).elim (λh=>y1 c (k5 c h)) (λh=>y2 c (h5 c (eZ h))),λj y bj hy hj=>?_⟩
 by_cases e:j=i
 ·subst e
  rw[Ai qc] at hy;rw[Ai qa] at hj
  cases hy;cases hj
  refine hR.fr _ _ _ _ _ _ k3 (λ_ _=>rfl) (λq hq=>?_);rw[hv,mY hq]
 ·rw[Ak (λh=>e h.symm)] at hy hj;exact h6 j y bj hy hj
theorem Sep.ct {cs cs' m} (H:Sep X N w0 w (rc sz R cs m::D)) (h:∀ i x,m[i]?=some (some x)->∀ j,j<sz->cs'[i*sz+j]?=cs[i*sz+j]?):Sep X N w0 w (rc sz R cs' m::D):= H.imp (λ{Y} ⟨bss,h3,h4,h5,h6⟩ hY=>⟨bss,h3,h4,h5,λi x bi hx hi=>hR.fr _ _ _ _ _ _ (h6 i x bi hx hi) (λ_ _=>rfl) (λj hj=>h i x hx j hj)⟩) (λc hc=>hc.elim)
end
def wr (cs:List Vl) (o:Nat) (vs:List Vl):List Vl:=cs.take o++vs++cs.drop (o+vs.length)
theorem tS {cs vs o} (h:o+vs.length<=cs.length):(wr cs o vs).length=cs.length:=by
 unfold wr;simp only[Ar,Bd,Dq];omega
theorem xKx {cs vs o j} (h:o+vs.length<=cs.length):(wr cs o vs)[j]?=if o<=j/\j<o+vs.length then vs[j - o]? else cs[j]?:=by
 unfold wr
 have hl:(cs.take o).length=o:=by rw[Bd];omega
 by_cases h1:j<o
 ·rw[if_neg xG,Dl,Bu xG,Bf,if_pos h1]
 ·by_cases h2:j<o+vs.length
  ·rw[if_pos ⟨xG,h2⟩,Bu (by rw[Ar,hl];omega),Bb xG,hl]
  ·rw[if_neg xG,Bb (by rw[Ar,hl];omega),Ar,hl,Dv]
   congr 1;omega
theorem xAa {i j q sz:Nat} (h:j≠i) (hq:q<sz):¬ (i*sz<=j*sz+q/\j*sz+q<i*sz+sz):=by
 rintro ⟨h1,h2⟩
 rcases Nat.lt_or_gt_of_ne h with h3 | h3
 ·have:(j+1)*sz<=i*sz:=Ax _ h3
  rw[Ct] at this;omega
 ·have:(i+1)*sz<=j*sz:=Ax _ h3
  rw[Ct] at this;omega
theorem xYd {cs cs' sz i j} (h:∀ q,q<sz->cs'[i*sz+q]?=cs[j*sz+q]?):cl cs' sz i=cl cs sz j:=by
 unfold cl
 apply Cr
 intro q;simp only[Bf,Dv]
 by_cases hq:q<sz
 ·rw[if_pos hq,if_pos hq];exact h q hq
 ·rw[if_neg hq,if_neg hq]
section
variable {X:List Nat} {N:Nat->Prop} {w0 w:Wd} {D:List As} {A B:As} {α:Type} {sz:Nat} {R:ER α} [hR:FrC sz R] {E:Ty} {v:Vl} {l:List α}
theorem Sep.one1 {cs} (H:Sep X N w0 w (rc sz R cs (l.map some)::D)):∀ (i:Nat) x,l[i]?=some x->∀ u∈cl cs sz i,u.oneCell'=true:=by
 obtain⟨Y,⟨bss,h3,_,_,h6⟩,_⟩:=H.hd;intro i x hx u hu
 have hi:i<bss.length:=by rw[h3,Bw];exact(Ac.1 hx).1
 obtain⟨q,hq,rfl⟩:=Bx hu
 have qa:q<sz:=by unfold cl at hq;rw[Bd] at hq;omega
 obtain⟨u,h1,h2⟩:=hR.tot _ _ _ _ (h6 i x _ (by rw[Bc,hx];rfl) (Aa hi)) q qa;have h4:=mY (cs:=cs) (i:=i) qa;rw[Aa hq] at h4;rw[<- h4] at h1
 cases h1
 exact h2
theorem Sep.sw (H:Sep X N w0 w (A::B::D)):Sep X N w0 w (B::A::D):=by
 obtain⟨_,_,hN,_⟩:=H.mg.hd;exact Sep.um (H.mg.imp (B:=pr B A) (λ{Y} ⟨Y1,Y2,h1,h2,d,y1,y2⟩ _=>⟨Y2,Y1,h2,h1,d.symm,y2,y1⟩) (λc hc=>hN c hc.symm))
theorem Sep.swp {cs:List Vl} {i k:Nat} {x y:α} (H:Sep X N w0 w (rc sz R cs (l.map some)::D)) (hi:l[i]?=some x) (hk:l[k]?=some y) (hn:l.length*sz<=cs.length) :
 Sep X N w0 w (rc sz R (wr (wr cs (i*sz) (cl cs sz k)) (k*sz) (cl cs sz i)) (((l.set i y).set k x).map some)::D):=by
 have qa:=(Ac.1 hi).1;have qc:=(Ac.1 hk).1;have li:=xAz qa hn;have lk:=xAz qc hn
 have bi:i*sz+sz<=cs.length:=by have:=Ax sz (show i+1<=l.length from qa);rw[Ct] at this;omega
 have bk:k*sz+sz<=cs.length:=by have:=Ax sz (show k+1<=l.length from qc);rw[Ct] at this;omega
 have g1:∀ q,(wr cs (i*sz) (cl cs sz k))[q]?=if i*sz<=q/\q<i*sz+sz then (cl cs sz k)[q - i*sz]? else cs[q]?:=λq=>by rw[xKx xG,lk]
 have g2:∀ q,(wr (wr cs (i*sz) (cl cs sz k)) (k*sz) (cl cs sz i))[q]?=if k*sz<=q/\q<k*sz+sz then (cl cs sz i)[q - k*sz]? else if i*sz<=q/\q<i*sz+sz then (cl cs sz k)[q - i*sz]? else cs[q]?:=λq=>by
  rw[xKx (by rw[tS xG];omega),li]
  split
  ·rfl
  ·exact g1 q
 by_cases e:i=k
 ·subst e
  rw[hi] at hk;cases hk
  have:(l.set i x).set i x=l:=by
   rw[Ed];apply Cr;intro q
   by_cases hq:i=q
   ·subst hq;rw[Ai qa,hi]
   ·rw[Ak hq]
  rw[this];refine H.ct (λj z hz q hq=>?_);rw[g2]
  split
  ·rename_i h;have hj:j=i:=Classical.byContradiction λh2=>xAa h2 hq h
   subst hj;rw[Dy];exact mY hq
  ·rfl
 ·have m1:(l.map some)[i]?=some (some x):=by rw[Bc,hi];rfl
  have m2:((l.map some).set i none)[k]?=some (some y):=by rw[Ak e,Bc,hk];rfl
  have H1:=H.tk i m1 li;have H2:=H1.sw.tk k m2 lk;have H3:=H2.sw
  have H4:Sep X N w0 w (rc sz R (wr (wr cs (i*sz) (cl cs sz k)) (k*sz) (cl cs sz i)) (((l.map some).set i none).set k none)::ow (V:=qR sz R) (.agg (cl cs sz k).toArray) y::ow (V:=qR sz R) (.agg (cl cs sz i).toArray) x::D):=by
   refine H3.ct (λj z hz q hq=>?_)
   have hj:j≠i/\j≠k:=by
    constructor
    ·rintro rfl
     rw[Ak (λh=>e h.symm),Ai (vV qa)] at hz;cases hz
    ·rintro rfl
     rw[Ai (vV qc)] at hz;cases hz
   rw[g2,if_neg (xAa hj.2 hq),if_neg (xAa hj.1 hq)]
  have H5:=H4.sw.pt (i:=i) (by rw[Ak (λh=>e h.symm),Ai (vV qa)]) (xYd (λq hq=>by
   rw[g2,if_neg (xAa e hq),if_pos ⟨xG,xG⟩,Dy,mY hq])).symm
  have H6:=H5.sw.pt (i:=k) (by rw[Ak e,Ai (vV qc)]) (xYd (λq hq=>by
   rw[g2,if_pos ⟨xG,xG⟩,Dy,mY hq])).symm
  have:((((l.map some).set i none).set k none).set i (some y)).set k (some x)=((l.set i y).set k x).map some:=by
   rw[List.map_set,List.map_set]
   apply Cr
   intro q
   by_cases h1:k=q
   ·subst h1;rw[Ai (vV qc),Ai (vV qc)]
   ·rw[Ak h1,Ak h1]
    by_cases h2:i=q
    ·subst h2;rw[Ai (vV qa),Ai (vV qa)]
    ·rw[Ak h2,Ak h2,Ak h1,Ak h2]
  rw[this] at H6;exact H6
end
def rcw (M:Nat->Prop) {α:Type} (sz:Nat) (R:ER α) [hR:FrC sz R] (cs:List Vl) (m:List α):As:= ⟨M,λw Y=>∃ bss:List (List Nat),bss.length=m.length/\kH bss.flatten w/\(∀ c∈bss.flatten,c∈Y∨M c)/\∀ i x bi,m[i]?=some x->bss[i]?=some bi->R w (λj=>cs[i*sz+j]?) x bi,λ{w w' Y} h h1 h2 hs=>by
 obtain⟨bss,h3,h4,h5,h6⟩:=h
 exact⟨bss,h3,h4.le hs,h5,λi x bi hx hi=>hR.fr _ _ _ _ _ _ (h6 i x bi hx hi) (λc hc=>(h5 c (Bl.2 ⟨bi,Af hi,hc⟩)).elim (h1 c) (h2 c)) (λ_ _=>rfl)⟩⟩
section
variable {X:List Nat} {N M:Nat->Prop} {w0 w:Wd} {D:List As} {A B:As} {α:Type} {sz:Nat} {R:ER α} [hR:FrC sz R] {E:Ty} {v:Vl} {l:List α}
theorem Sep.opw (H:Sep X N w0 w (rw M sz R E v l::D)) (hl:0<l.length):∃ u:Nat×Nat×List Vl,Sep X N w0 w (bx u.1 u.2.2 E::rcw M sz R u.2.2 l::D)/\Vw v u.1 l.length u.2.1 sz u.2.2:=by
 obtain⟨Y0,⟨rb0,ib0,r0,_⟩,qd,_⟩:=H.hd;obtain⟨xs,bss,ho,hbl,hfl,he⟩:=r0.row
 rcases ho.2 with ⟨rfl,h0⟩ | ⟨g,cap,cur,hv,h1,h2,h3,h4,h5,h6⟩
 ·omega
 refine⟨(g,cap,cur.toList),Sep.um (H.imp (B:=pr (bx g cur.toList E) (rcw M sz R cur.toList l)) (λ{Y} hP hY=>?_) (λc hc=>hc.elim (λh=>h.elim) (qd c))),hv,h3,h4,vV h5⟩;obtain⟨rb,ib,r,hrb,qe⟩:=hP;have hh:=r.hrb;subst hv
 simp [uA,Value.ownBlock] at hh
 subst hh;obtain⟨xs2,bss2,qf,qc,qa,qg⟩:=r.row
 rcases qf.2 with ⟨h,_⟩ | ⟨g2,cap2,cur2,qh,k1,k2,k3,k4,k5,k6⟩
 ·cases h
 cases qh
 rw[h2] at k2
 cases k2
 refine⟨[g],ib.filter (λc=>decide (c∈Y)),⟨by simpa [lG] using h2,vK⟩,⟨bss2,qc,qa ▸ r.mem,λc hc=>?_,λi y bi hy hi=>?_⟩,λc hc qi=>r.dj c hc (Df.1 qi).1,hrb,λc hc=>by simpa using (Df.1 hc).2⟩
 ·rw[qa] at hc
  rcases qe c hc with h | h
  ·exact .inl (Df.2 ⟨hc,vV h⟩)
  ·exact .inr h
 ·refine hR.fr _ _ _ _ _ _ (qg i y bi hy hi) (λ_ _=>rfl) (λj hj=>?_)
  have qj:i<l.length:=(Ac.1 hy).1;have hm:(i+1)*sz<=l.length*sz:=Ax _ qj;rw[Ct] at hm;rw[<- k6,Bf,if_pos xG]
theorem Sep.clw {g c cs} (H:Sep X N w0 w (bx g cs E::rcw M sz R cs l::D)) (hv:Vw v g l.length c sz cs):Sep X N w0 w (rw M sz R E v l::D):=by
 obtain⟨Y,⟨Y1,Y2,⟨h1,h2⟩,⟨bss,h3,h4,h5,h6⟩,dj,y1,y2⟩,qa,hY,tr⟩:=H.mg.hd;obtain⟨rfl,k1,k2,k3⟩:=hv;refine tr (Z:=[]) (λ_ h=>nomatch h) (B5.refl _ _) (B:=rw M sz R E _ l) (Y1:=Y) ⟨[g],bss.flatten,⟨⟨cs.take (l.length*sz),bss,⟨?_,.inr ⟨g,c,cs.toArray,rfl,Bi _,h1,k1,k2,vV k3,vK⟩⟩,h3,rfl,λi x bi hx hi=>?_⟩,rfl,h4,λb hb qc=>?_⟩,λb hb=>?_,λb hb=>(h5 b hb).imp (y2 b) id⟩ (λc hc=>qa c (.inr hc)) (λc hc=>⟨.inl hc,(hY c hc).1⟩)
 ·rw[Bd,k3];exact Fa (Ax _ k1)
 ·refine hR.fr _ _ _ _ _ _ (h6 i x bi hx hi) (λ_ _=>rfl) (λj hj=>?_)
  have qd:i<l.length:=(Ac.1 hx).1;have hm:(i+1)*sz<=l.length*sz:=Ax _ qd;rw[Ct] at hm;rw[Bf,if_pos xG]
 ·simp at hb;subst hb
  rcases h5 b qc with h | h
  ·exact dj _ h2 h
  ·exact(hY b (y1 b h2)).2 (qa b (.inr h))
 ·simp at hb;subst hb;exact y1 _ h2
theorem Sep.onw {cs} (H:Sep X N w0 w (rcw M sz R cs l::D)):∀ (i:Nat) x,l[i]?=some x->∀ u∈cl cs sz i,u.oneCell'=true:=by
 obtain⟨Y,⟨bss,h3,_,_,h6⟩,_⟩:=H.hd;intro i x hx u hu
 have hi:i<bss.length:=by rw[h3];exact(Ac.1 hx).1
 obtain⟨q,hq,rfl⟩:=Bx hu
 have qa:q<sz:=by unfold cl at hq;rw[Bd] at hq;omega
 obtain⟨u,h1,h2⟩:=hR.tot _ _ _ _ (h6 i x _ hx (Aa hi)) q qa;have h4:=mY (cs:=cs) (i:=i) qa;rw[Aa hq] at h4;rw[<- h4] at h1
 cases h1
 exact h2
theorem Sep.sww {cs:List Vl} {i k:Nat} {x y:α} (H:Sep X N w0 w (rcw M sz R cs l::D)) (hi:l[i]?=some x) (hk:l[k]?=some y) (hn:l.length*sz<=cs.length) :
 Sep X N w0 w (rcw M sz R (wr (wr cs (i*sz) (cl cs sz k)) (k*sz) (cl cs sz i)) ((l.set i y).set k x)::D):=by
 have qc:=(Ac.1 hi).1;have qd:=(Ac.1 hk).1;have li:=xAz qc hn;have lk:=xAz qd hn
 have bi:i*sz+sz<=cs.length:=by have:=Ax sz (show i+1<=l.length from qc);rw[Ct] at this;omega
 have bk:k*sz+sz<=cs.length:=by have:=Ax sz (show k+1<=l.length from qd);rw[Ct] at this;omega
 have g2:∀ q,(wr (wr cs (i*sz) (cl cs sz k)) (k*sz) (cl cs sz i))[q]?=if k*sz<=q/\q<k*sz+sz then (cl cs sz i)[q - k*sz]? else if i*sz<=q/\q<i*sz+sz then (cl cs sz k)[q - i*sz]? else cs[q]?:=λq=>by
  rw[xKx (by rw[tS xG];omega),li]
  split
  ·rfl
  ·rw[xKx xG,lk]
 obtain⟨_,_,qg,_⟩:=H.hd;refine H.imp (λ{Y} ⟨bss,h3,h4,h5,h6⟩ hY=>?_) qg;have qe:i<bss.length:=xG;have qf:k<bss.length:=xG
 have qa:∀ c,c∈((bss.set i bss[k]).set k bss[i]).flatten->c∈bss.flatten:=λc hc=>by
  rcases dJ hc with h | h
  ·rcases dJ h with h | h
   ·exact h
   ·exact Bl.2 ⟨_,Bs qf,h⟩
  ·exact Bl.2 ⟨_,Bs qe,h⟩
 refine⟨(bss.set i bss[k]).set k bss[i],by simp [h3],λc hc=>h4 c (qa c hc),λc hc=>h5 c (qa c hc),λj z bj hz hj=>?_⟩
 by_cases e1:k=j
 ·subst e1
  rw[Ai (vV qd)] at hz;rw[Ai (vV qf)] at hj
  cases hz;cases hj
  refine hR.fr _ _ _ _ _ _ (h6 i x _ hi (Aa qe)) (λ_ _=>rfl) (λq hq=>?_);rw[g2,if_pos ⟨xG,xG⟩,Dy,mY hq]
 ·rw[Ak e1] at hz hj
  by_cases e2:i=j
  ·subst e2
   rw[Ai qc] at hz;rw[Ai qe] at hj
   cases hz;cases hj
   refine hR.fr _ _ _ _ _ _ (h6 k y _ hk (Aa qf)) (λ_ _=>rfl) (λq hq=>?_);rw[g2,if_neg (xAa (λh=>e1 h.symm) hq),if_pos ⟨xG,xG⟩,Dy,mY hq]
  ·rw[Ak e2] at hz hj
   refine hR.fr _ _ _ _ _ _ (h6 j z bj hz hj) (λ_ _=>rfl) (λq hq=>?_);rw[g2,if_neg (xAa (λh=>e1 h.symm) hq),if_neg (xAa (λh=>e2 h.symm) hq)]
end
theorem oMr {P a n L d ty pos af gg t e sz g m c i} (ht:P.underlying t=some (.slice e)) (qc:∀ w,(sizeOf e).run P w= .ok sz w)
 (F:Sk a n L) (he:ev L x=some (.slice (some ⟨g,0,none⟩) m c)) (hi:ev L iy=some (.int .i64 i)) (h0:0<=i) (h1:i<m) (w':Wd) :
 (execOp a.eval ⟨d,.indexAddr t x iy,ty,pos,af,gg⟩).run P w'= .ok (.value (.pointer (some ⟨g,i.toNat*sz,none⟩))) w':=by
 have qa:=cJ g 0 (i.toNat*sz)
 unfold execOp
 simp only[F.ev he,F.ev hi]
 simp [Instr.indexAt,run_underlying ht,asIntOf,h0,h1,qc,qa]
section
variable {P:Program} {ops:Array Oper} {Q:Exit->Act->Wd->Prop} {n:Nat} {X:List Nat} {N:Nat->Prop} {w0:Wd} {L:List (Nat×Vl)} {D:List As} {ρ:Type} {tt:Option ρ} {CC:ρ->Prop} {G:Act->Wd->Prop} {rest:List Oper} {d:Nat} {ty:Ty} {pos:String} {af:Array Edge} {gg:Option (Nat×Bool)}
theorem jix {t e:Ty} {sz g m c:Nat} {i:Int} [ht:Ug P t (.slice e)] [hsz:Sz P e sz] (h:0<=i/\i<m) (kt:J n X N w0 ((d,.pointer (some ⟨g,i.toNat*sz,none⟩))::L) D tt CC (wpList P ops Q rest)) (hc:vR ops n L gg d=true:=by rfl) (he:ev L x=some (.slice (some ⟨g,0,none⟩) m c):=by rfl) (hi:ev L iy=some (.int .i64 i):=by rfl):J n X N w0 L D tt CC (wpList P ops Q (⟨some d,.indexAddr t x iy,ty,pos,af,gg⟩::rest)):=⟨λa w F H xq h1 h2=>zT F hc (oMr ht.h hsz.h F he hi h.1 h.2 w) (λa' F'=>kt.h a' w F' H xq h1 h2)⟩
theorem xHb {Mv:Nat->Prop} {K:Act->Wd->Prop} {f:Nat} {ls:Array Bool} (ii:Nat) {t e:Ty} {sz g m c:Nat} {i:Int} (qa:ops[ii]?=some ⟨some d,.indexAddr t x iy,ty,pos,af,gg⟩) [ht:Ug P t (.slice e)] [qc:Sz P e sz] (h:0<=i/\i<m) (kt:J n X N w0 ((d,.pointer (some ⟨g,i.toNat*sz,none⟩))::L) D tt CC (zE P ops K (Sm Mv) f (ls.setIfInBounds ii true))) (hc:vR ops n L gg d=true:=by rfl) (he:ev L x=some (.slice (some ⟨g,0,none⟩) m c):=by rfl) (hi:ev L iy=some (.int .i64 i):=by rfl) (hb:bqc ops ls ii false=true:=by kernel_rfl):J n X N w0 L D tt CC (zE P ops K (Sm Mv) (f+1) ls):= jvz ii qa (λF H w _=>oMr ht.h qc.h F he hi h.1 h.2 w) kt hc hb
theorem jfc {φ} (f:∀ {w},Sep X N w0 w D->φ) (kt:φ->J n X N w0 L D tt CC G):J n X N w0 L D tt CC G:=⟨λa w F H xq h1 h2=>(kt (f H)).h a w F H xq h1 h2⟩
theorem xMs {γ:Type} {φ:γ->Prop} {E:γ->List As} (f:∀ {w},Sep X N w0 w D->∃ u,Sep X N w0 w (E u)/\φ u) (kt:∀ u,φ u->J n X N w0 L (E u) tt CC G):J n X N w0 L D tt CC G:=⟨λa w F H xq h1 h2=>let ⟨u,H',hu⟩:=f H;(kt u hu).h a w F H' xq h1 h2⟩
end
end
section
open Go.RowKit
section
variable {X:List Nat} {N:Nat->Prop} {w0 w:Wd} {D:List As} {A B C:As} {α:Type} {sz:Nat} {R:ER α} [hR:FrC sz R] {E:Ty} {v:Vl} {l:List α}
theorem Sep.r3 (H:Sep X N w0 w (A::B::C::D)):Sep X N w0 w (C::A::B::D):=by
 have H1:=H.mg.sw.mg;obtain⟨_,_,hN,_⟩:=H1.hd;refine Sep.um (Sep.um (H1.imp (B:=pr (pr C A) B) (λ{Y} ⟨Y1,Y2,hC,⟨Y3,Y4,hA,hB,d2,y3,y4⟩,d1,y1,y2⟩ _=>⟨Y1++Y3,Y4,⟨Y1,Y3,hC,hA,λc h1 h3=>d1 c h1 (y3 c h3),λc h=>Bq _ h,λc h=>Bm _ h⟩,hB,λc h h4=>?_,λc h=>?_,λc h=>y2 c (y4 c h)⟩) (λc h=>hN c ?_)))
 ·rcases Aj.1 h with h | h
  ·exact d1 c h (y4 c h4)
  ·exact d2 c h h4
 ·rcases Aj.1 h with h | h
  ·exact y1 c h
  ·exact y2 c (y3 c h)
 ·rcases h with (h | h) | h
  ·exact .inl h
  ·exact .inr (.inl h)
  ·exact .inr (.inr h)
theorem Sep.hole {cs:List Vl} {m:List (Option α)} (H:Sep X N w0 w (rc sz R cs m::D)) (i:Nat):Sep X N w0 w (rc sz R cs (m.set i none)::D):= H.imp (λ{Y} ⟨bss,h3,h4,h5,h6⟩ _=>⟨bss,vV h3,h4,h5,λj x bj hx hj=>h6 j x bj (by
 by_cases e:i=j
 ·subst e
  rw[Fe] at hx
  simp at hx
 ·rwa [Ak e] at hx) hj⟩) (λc hc=>hc.elim)
theorem Sep.un {i g c:Nat} {x:α} {cs cs' vs:List Vl} (H:Sep X N w0 w (bx g cs' E::ow (V:=qR sz R) (.agg vs.toArray) x::rc sz R cs ((l.map some).set i none)::D)) (hv:Vw v g l.length c sz cs) (hi:i<l.length) (hc:vs=cl cs' sz i) (hn:cs'.length=cs.length) (ho:∀ j,j≠i->∀ q,q<sz->cs'[j*sz+q]?=cs[j*sz+q]?):Sep X N w0 w (rl sz R E v (l.set i x)::D):=by
 have H1:=H.r3.ct (cs':=cs') (λj y hy q hq=>ho j (by
  rintro rfl
  rw[Ai (vV hi)] at hy
  cases hy) q hq)
 have H2:=H1.r3.pt (i:=i) (by rw[Ai (vV hi)]) hc;rw[Ed,<- List.map_set] at H2;obtain⟨e,h1,h2,h3⟩:=hv;exact H2.sw.cls ⟨by rw[Cl];exact e,by rw[Cl];exact h1,h2,hn.trans h3⟩
end
section
variable {P:Program} {ops:Array Oper} {Q:Exit->Act->Wd->Prop} {a:Act} {w w0 w1:Wd} {n:Nat} {L:List (Nat×Vl)} {rest:List Oper} {d:Nat} {ty:Ty} {pos:String} {af:Array Edge} {g:Option (Nat×Bool)} {M N N1:Nat->Prop} {X:List Nat} {D:List As} {A:As} {ρ:Type} {tt:Option ρ} {CC:ρ->Prop} {G:Act->Wd->Prop}
theorem oSA {α:Type} {sz:Nat} {R:ER α} [hR:FrC sz R] {x y:Operand} {t E:Ty} {v p:Vl} {vs:List Vl} {l l':List α} {i:Nat} {u z:α} (qd:∀ w,(sizeOf t).run P w= .ok sz w)
 (F:Sk a n L) (hc:gok ops L g=true) (hx:ev L x=some p) (hy:ev L y=some (.agg vs.toArray)) (H:Sep X N w0 w (rl sz R E v l::ow (V:=qR sz R) (.agg vs.toArray) z::D)) (hp:RPt v sz i p) (hi:l[i]?=some u) (hl:l.set i z=l')
 (k:∀ w',Sep X N w0 w' (rl sz R E v l'::D)->wpList P ops Q rest a w'):wpList P ops Q (⟨none,.store t x y,ty,pos,af,g⟩::rest) a w:=by
 have qa:=(Ac.1 hi).1;obtain⟨Y0,⟨bs0,⟨⟨cs0,k1,k2,k3⟩,_⟩,_⟩,_⟩:=H.sw.hd
 have e0:cs0=vs:=by have:=congrArg Value.cells k2;simp [Value.cells] at this;exact this.symm
 subst e0
 have hone:∀ q∈cs0,q.oneCell'=true:=λq hq=>by
  obtain⟨j,hj,rfl⟩:=Bx hq;obtain⟨u,h1,h2⟩:=hR.tot _ _ _ _ k3 j xG;simp only[Aa hj] at h1
  cases h1;exact h2
 obtain⟨⟨g1,c1,cs⟩,H1,hv⟩:=H.opn xG;obtain⟨g2,m,c,e1,rfl⟩:=hp;have qc:=hv;obtain⟨rfl,h1,h2,h3⟩:=hv;simp only[Value.slice.injEq,Option.some.injEq,Addr.mk.injEq,and_true] at e1;obtain⟨rfl,rfl,rfl⟩:=e1
 have hb:i*sz+sz<=cs.length:=by
  have h5:=Ax sz (show i+1<=l.length from qa);have h6:l.length*sz<=cs.length:=qc.le;have h7:1*sz=sz:=Nat.one_mul sz;rw[Ct] at h5;omega
 have H2:=(H1.sw.hole i).sw;obtain⟨Y,hP,_,hY,tr⟩:=H2.hd;subst hl;refine xOn F hc hx hy (.inl ⟨k1 ▸ qd,rfl,hone⟩) hP.1 (by simpa [k1] using hb) (λw' K' lo=>?_);have H3:=tr (Z:=[g1]) (λc hc=>by rw[Ay] at hc;subst hc;exact hP.2) lo (B:=bx g1 (wr cs (i*sz) cs0) E) (Y1:=Y) ⟨by simpa [wr] using K',hP.2⟩ n0 (λc hc=>⟨.inl hc,Au (hY c hc).1 lo.size⟩);have hg:∀ q,(wr cs (i*sz) cs0)[q]?=if i*sz<=q/\q<i*sz+cs0.length then cs0[q - i*sz]? else cs[q]?:=λq=>xKx xG;refine k w' (H3.r3.sw.un qc qa ?_ (tS xG) (λj hj q hq=>by rw[hg,k1,if_neg (xAa hj hq)]))
 apply Cr
 intro q
 by_cases hq:q<sz
 ·rw[mY hq,hg,if_pos ⟨xG,xG⟩,Dy]
 ·rw[Ce xG,Ce (by unfold cl;rw[Bd];omega)]
theorem jSA {α:Type} {sz:Nat} {R:ER α} [hR:FrC sz R] {x y:Operand} {t E:Ty} {v p:Vl} {vs:List Vl} {l l':List α} {i:Nat} {u z:α} [hsz:Sz P t sz] (hp:RPt v sz i p) (hi:l[i]?=some u) (hl:l.set i z=l') (kt:J n X N w0 L (rl sz R E v l'::D) tt CC (wpList P ops Q rest)) (hc:gok ops L g=true:=by rfl) (hx:ev L x=some p:=by rfl) (hy:ev L y=some (.agg vs.toArray):=by rfl):J n X N w0 L (rl sz R E v l::ow (V:=qR sz R) (.agg vs.toArray) z::D) tt CC (wpList P ops Q (⟨none,.store t x y,ty,pos,af,g⟩::rest)):=⟨λa w F H xq qa qc=>oSA hsz.h F hc hx hy H hp hi hl (λw' H'=>kt.h a w' F H' xq qa qc)⟩
theorem oCq {w1:Wd} {α:Type} {sz:Nat} {R:ER α} {x hi mx:Operand} {t E:Ty} {v:Vl} {l r:List α} {bs:List Nat} {j:Int} (ht:P.underlying t=some (.slice E)) (qc:∀ w,(sizeOf E).run P w= .ok sz w)
 (F:Sk a n L) (hc:vR ops n L g d=true) (hx:ev L x=some v) (hh:ev L hi=some (.int .i64 j)) (hm:ev L mx=some (.int .i64 j)) (h:Sl sz R w1 v l bs) (hs:sl l 0 j=some r)
 (k:∀ a' v',(∀ w2 bs,Sl sz R w2 v l bs->∃ bs',Sl sz R w2 v' r bs'/\bs'.Sublist bs)->Sk a' n ((d,v')::L)->wpList P ops Q rest a' w):wpList P ops Q (⟨some d,.slice t x none (some hi) (some mx),ty,pos,af,g⟩::rest) a w:=by
 obtain⟨ad,c,rfl,h1,h2,h3,h4⟩:=h;obtain⟨h0,qa,qd,rfl⟩:=xJp hs;obtain⟨j,rfl⟩:∃ m:Nat,j=m:=⟨j.toNat,xG⟩;simp only[Ad,Int.toNat_zero,Ex] at k ⊢;have h5:(j:Int)<=c:=xG;have h6:(j:Int)<=(l.length:Int):=qd
 have hr:(execOp a.eval ⟨some d,.slice t x none (some hi) (some mx),ty,pos,af,g⟩).run P w= .ok (.value (.slice (if j=0 then ad else ad.map (·.add 0)) j j)) w:=by
  unfold execOp
  simp only[F.ev hx,F.ev hh,F.ev hm,Option.map_none,Cw];have h7:¬ c<j:=xG
  simp [Instr.sliceAt,Instr.slice,run_underlying ht,Instr.sliceBounds,Instr.sliceBound,asIntOf,qc,h5,h7]
 have qe:(if j=0 then ad else ad.map (·.add 0))=ad:=by
  split
  ·rfl
  ·cases ad with
   | none=>rfl
   | some y=>rfl
 rw[qe] at hr
 have hl:(l.take j).length=j:=by rw[Bd];omega
 refine zT F hc hr (λa' F'=>k a' _ (λw2 bs2 q=>?_) F');obtain⟨a2,c2,e,k1,k2,k3,k4⟩:=q;simp only[Value.slice.injEq,true_and] at e;obtain⟨rfl,rfl⟩:=e
 rcases k4 with ⟨rfl,rfl⟩ | ⟨b,o,bss,rfl,rfl,hb,he⟩
 ·exact⟨[],⟨ad,j,by rw[hl],by rw[hl];exact Az _,xG,λe=>by have:=h3 e;omega,.inl ⟨vK,rfl⟩⟩,List.Sublist.refl _⟩
 ·refine⟨b::(bss.take j).flatten,⟨some ⟨b,o,none⟩,j,by rw[hl],by rw[hl];exact Az _,xG,(λe=>nomatch e),.inr ⟨b,o,bss.take j,rfl,rfl,by rw[hl,Bd];omega,λi x bi hx hi=>?_⟩⟩,?_⟩
  ·rw[Bf] at hx hi
   split at hx
   ·rename_i qa
    rw[if_pos qa] at hi;exact he i x bi hx hi
   ·cases hx
  ·refine List.Sublist.cons_cons _ ?_
   have:bss.flatten=(bss.take j).flatten++(bss.drop j).flatten:=by rw[<- Eg,Ei]
   rw[this];exact List.sublist_append_left ..
theorem oCw {α:Type} {sz:Nat} {R:ER α} [hR:FrC sz R] {x hi mx:Operand} {t E:Ty} {v:Vl} {l r:List α} {j:Int} (ht:P.underlying t=some (.slice E)) (qa:∀ w,(sizeOf E).run P w= .ok sz w) (F:Sk a n L) (hc:vR ops n L g d=true) (hx:ev L x=some v) (hh:ev L hi=some (.int .i64 j)) (hm:ev L mx=some (.int .i64 j)) (H:Sep X N w0 w (ow (V:=Sl sz R) v l::D)) (hs:sl l 0 j=some r) (k:∀ a' v',Sep X N w0 w (ow (V:=Sl sz R) v' r::D)->Sk a' n ((d,v')::L)->wpList P ops Q rest a' w):wpList P ops Q (⟨some d,.slice t x none (some hi) (some mx),ty,pos,af,g⟩::rest) a w:=by
 obtain⟨_,⟨bs0,⟨r0,_⟩,_⟩,_⟩:=H.hd;refine oCq ht qa F hc hx hh hm r0 hs (λa' v' q F'=>k a' v' (H.dt (λ{Y} ⟨bs,rd,o,s⟩ _=>?_)) F');obtain⟨bs',h1,hs⟩:=q _ _ rd.r;exact⟨bs',⟨h1,λc hc=>rd.m c (hs.subset hc)⟩,⟨o.1.sublist hs,λc hc=>o.2 c (hs.subset hc)⟩,λc hc=>s c (hs.subset hc)⟩
theorem jCw {α:Type} {sz:Nat} {R:ER α} [hR:FrC sz R] {x hi mx:Operand} {t E:Ty} {v:Vl} {l r:List α} {j:Int} [ht:Ug P t (.slice E)] [hsz:Sz P E sz] (hs:sl l 0 j=some r) (hh:ev L x=some v/\ev L hi=some (.int .i64 j)/\ev L mx=some (.int .i64 j)) (kt:∀ v',J n X N w0 ((d,v')::L) (ow (V:=Sl sz R) v' r::D) tt CC (wpList P ops Q rest)) (hc:vR ops n L g d=true:=by rfl):J n X N w0 L (ow (V:=Sl sz R) v l::D) tt CC (wpList P ops Q (⟨some d,.slice t x none (some hi) (some mx),ty,pos,af,g⟩::rest)):=⟨λa w F H xq qa qc=>oCw ht.h hsz.h F hc hh.1 hh.2.1 hh.2.2 H hs (λa' v' H' F'=>(kt v').h a' w F' H' xq qa qc)⟩
end
end
section
open Go.RowKit
def OPf (v:Vl) (sz i f:Nat) (p:Vl):Prop:=∃ b o m c,v= .slice (some ⟨b,o,none⟩) m c/\p= .pointer (some ⟨b,o+i*sz+f,none⟩)
def Ln {α β:Type} (sz:Nat) (R:ER α) (f:Nat) (V:VR β) (g:α->β) (s:α->β->α):Prop:=∀ w h x bs,R w h x bs->∃ q b1 b2,h f=some q/\V w q (g x) b1/\bs.Perm (b1++b2)/\∀ w' h' y b3,pJ b2 w w'->(∀ j,j<sz->h' j=h j)->V w' q y b3->∃ bs',R w' h' (s x y) bs'/\bs'.Perm (b3++b2)
def St {α:Type} (sz:Nat) (R:ER α) (f:Nat) (e:Vl) (u z:α):Prop:=∀ w h h' bs,R w h u bs->h' f=some e->(∀ j,j<sz->j≠f->h' j=h j)->R w h' z bs
theorem oR.st0 {x:Rel} {z:Int} (i:xM z):St 2 oR 0 (.int .i64 z) x { x with arity:=z }:=by rintro _ _ _ b1 ⟨v1,_,h0,k0,h1,k1,rfl⟩ e g;exact⟨v1,_,e,i,(g 1 xG xG).trans h1,k1,rfl⟩
theorem oR.ln1:Ln 2 oR 1 (Sl 1 tX) (λx=>x.tuples) (λx y=>{ x with tuples:=y }):=by rintro _ _ _ b1 ⟨v1,_,h0,k0,h1,k1,rfl⟩;exact⟨v1,b1,[],h1,k1,Ck.2 (λa=>by simp only[Cs,Da];omega),λ_ _ _ b s g k'=>⟨b,⟨v1,_,(g 0 xG).trans h0,k0,(g 1 xG).trans h1,k',rfl⟩,Ck.2 (λa=>by simp only[Cs,Da];omega)⟩⟩
theorem vH.st0 {x:Con} {z:Int} (i:xM z):St 2 vH 0 (.int .i64 z) x { x with rel:=z }:=by rintro _ _ _ b1 ⟨v1,_,h0,k0,h1,k1,rfl⟩ e g;exact⟨v1,_,e,i,(g 1 xG xG).trans h1,k1,rfl⟩
theorem vH.ln1:Ln 2 vH 1 (Sl 1 xF) (λx=>x.scope) (λx y=>{ x with scope:=y }):=by rintro _ _ _ b1 ⟨v1,_,h0,k0,h1,k1,rfl⟩;exact⟨v1,b1,[],h1,k1,Ck.2 (λa=>by simp only[Cs,Da];omega),λ_ _ _ b s g k'=>⟨b,⟨v1,_,(g 0 xG).trans h0,k0,(g 1 xG).trans h1,k',rfl⟩,Ck.2 (λa=>by simp only[Cs,Da];omega)⟩⟩
theorem xJ.st0 {x:A7} {z:Int} (i:xM z):St 2 xJ 0 (.int .i64 z) x { x with vars:=z }:=by rintro _ _ _ b1 ⟨v1,_,h0,k0,h1,k1,rfl⟩ e g;exact⟨v1,_,e,i,(g 1 xG xG).trans h1,k1,rfl⟩
theorem xJ.ln1:Ln 2 xJ 1 (Sl 2 vH) (λx=>x.cons) (λx y=>{ x with cons:=y }):=by rintro _ _ _ b1 ⟨v1,_,h0,k0,h1,k1,rfl⟩;exact⟨v1,b1,[],h1,k1,Ck.2 (λa=>by simp only[Cs,Da];omega),λ_ _ _ b s g k'=>⟨b,⟨v1,_,(g 0 xG).trans h0,k0,(g 1 xG).trans h1,k',rfl⟩,Ck.2 (λa=>by simp only[Cs,Da];omega)⟩⟩
theorem xS.st0 {x:B1} {z:Int} (i:xM z):St 3 xS 0 (.int .i64 z) x { x with var:=z }:=by rintro _ _ _ _ ⟨h0,k0,h1,k1,h2,k2,rfl⟩ e g;exact⟨e,i,(g 1 xG xG).trans h1,k1,(g 2 xG xG).trans h2,k2,rfl⟩
theorem xS.st1 {x:B1} {z:Int} (i:xM z):St 3 xS 1 (.int .i64 z) x { x with value:=z }:=by rintro _ _ _ _ ⟨h0,k0,h1,k1,h2,k2,rfl⟩ e g;exact⟨(g 0 xG xG).trans h0,k0,e,i,(g 2 xG xG).trans h2,k2,rfl⟩
theorem xS.st2 {x:B1} {z:Int} (i:xM z):St 3 xS 2 (.int .i64 z) x { x with con:=z }:=by rintro _ _ _ _ ⟨h0,k0,h1,k1,h2,k2,rfl⟩ e g;exact⟨(g 0 xG xG).trans h0,k0,(g 1 xG xG).trans h1,k1,e,i,rfl⟩
theorem xO.st0 {x:B0} {z:Int} (i:xM z):St 3 xO 0 (.int .i64 z) x { x with i:=z }:=by rintro _ _ _ _ ⟨h0,k0,h1,k1,h2,k2,rfl⟩ e g;exact⟨e,i,(g 1 xG xG).trans h1,k1,(g 2 xG xG).trans h2,k2,rfl⟩
theorem xO.st1 {x:B0} {z:Int} (i:xM z):St 3 xO 1 (.int .i64 z) x { x with j:=z }:=by rintro _ _ _ _ ⟨h0,k0,h1,k1,h2,k2,rfl⟩ e g;exact⟨(g 0 xG xG).trans h0,k0,e,i,(g 2 xG xG).trans h2,k2,rfl⟩
theorem xO.st2 {x:B0} {z:Int} (i:xM z):St 3 xO 2 (.int .i64 z) x { x with through:=z }:=by rintro _ _ _ _ ⟨h0,k0,h1,k1,h2,k2,rfl⟩ e g;exact⟨(g 0 xG xG).trans h0,k0,(g 1 xG xG).trans h1,k1,e,i,rfl⟩
theorem oK.st0 {x:A9} {z:Int} (i:xM z):St 5 oK 0 (.int .i64 z) x { x with kind:=z }:=by rintro _ _ _ _ ⟨v1,v2,v3,v4,b1,b2,b3,b4,h0,k0,h1,k1,h2,k2,h3,k3,h4,k4,rfl⟩ e g;exact⟨v1,v2,v3,v4,_,_,_,_,e,i,(g 1 xG xG).trans h1,k1,(g 2 xG xG).trans h2,k2,(g 3 xG xG).trans h3,k3,(g 4 xG xG).trans h4,k4,rfl⟩
theorem oK.ln1:Ln 5 oK 1 (Sl 1 xF) (λx=>x.values) (λx y=>{ x with values:=y }):=by rintro _ _ _ _ ⟨v1,v2,v3,v4,b1,b2,b3,b4,h0,k0,h1,k1,h2,k2,h3,k3,h4,k4,rfl⟩;exact⟨v1,b1,b2++b3++b4,h1,k1,Ck.2 (λa=>by simp only[Cs,Da];omega),λ_ _ _ b s g k'=>⟨b++b2++b3++b4,⟨v1,v2,v3,v4,_,_,_,_,(g 0 xG).trans h0,k0,(g 1 xG).trans h1,k',(g 2 xG).trans h2,k2.same xS.fr (λc hc=>s c (by simp [hc])),(g 3 xG).trans h3,k3.same xO.fr (λc hc=>s c (by simp [hc])),(g 4 xG).trans h4,k4.same xF.fr (λc hc=>s c (by simp [hc])),rfl⟩,Ck.2 (λa=>by simp only[Cs,Da];omega)⟩⟩
theorem oK.ln2:Ln 5 oK 2 (Sl 3 xS) (λx=>x.arcs) (λx y=>{ x with arcs:=y }):=by rintro _ _ _ _ ⟨v1,v2,v3,v4,b1,b2,b3,b4,h0,k0,h1,k1,h2,k2,h3,k3,h4,k4,rfl⟩;exact⟨v2,b2,b1++b3++b4,h2,k2,Ck.2 (λa=>by simp only[Cs,Da];omega),λ_ _ _ b s g k'=>⟨b1++b++b3++b4,⟨v1,v2,v3,v4,_,_,_,_,(g 0 xG).trans h0,k0,(g 1 xG).trans h1,k1.same xF.fr (λc hc=>s c (by simp [hc])),(g 2 xG).trans h2,k',(g 3 xG).trans h3,k3.same xO.fr (λc hc=>s c (by simp [hc])),(g 4 xG).trans h4,k4.same xF.fr (λc hc=>s c (by simp [hc])),rfl⟩,Ck.2 (λa=>by simp only[Cs,Da];omega)⟩⟩
theorem oK.ln3:Ln 5 oK 3 (Sl 3 xO) (λx=>x.pairs) (λx y=>{ x with pairs:=y }):=by rintro _ _ _ _ ⟨v1,v2,v3,v4,b1,b2,b3,b4,h0,k0,h1,k1,h2,k2,h3,k3,h4,k4,rfl⟩;exact⟨v3,b3,b1++b2++b4,h3,k3,Ck.2 (λa=>by simp only[Cs,Da];omega),λ_ _ _ b s g k'=>⟨b1++b2++b++b4,⟨v1,v2,v3,v4,_,_,_,_,(g 0 xG).trans h0,k0,(g 1 xG).trans h1,k1.same xF.fr (λc hc=>s c (by simp [hc])),(g 2 xG).trans h2,k2.same xS.fr (λc hc=>s c (by simp [hc])),(g 3 xG).trans h3,k',(g 4 xG).trans h4,k4.same xF.fr (λc hc=>s c (by simp [hc])),rfl⟩,Ck.2 (λa=>by simp only[Cs,Da];omega)⟩⟩
theorem oK.ln4:Ln 5 oK 4 (Sl 1 xF) (λx=>x.numbers) (λx y=>{ x with numbers:=y }):=by rintro _ _ _ _ ⟨v1,v2,v3,v4,b1,b2,b3,b4,h0,k0,h1,k1,h2,k2,h3,k3,h4,k4,rfl⟩;exact⟨v4,b4,b1++b2++b3,h4,k4,Ck.2 (λa=>by simp only[Cs,Da];omega),λ_ _ _ b s g k'=>⟨b1++b2++b3++b,⟨v1,v2,v3,v4,_,_,_,_,(g 0 xG).trans h0,k0,(g 1 xG).trans h1,k1.same xF.fr (λc hc=>s c (by simp [hc])),(g 2 xG).trans h2,k2.same xS.fr (λc hc=>s c (by simp [hc])),(g 3 xG).trans h3,k3.same xO.fr (λc hc=>s c (by simp [hc])),(g 4 xG).trans h4,k',rfl⟩,Ck.2 (λa=>by simp only[Cs,Da];omega)⟩⟩
theorem oK.wo {X:List Nat} {N:Nat->Prop} {w0 w:Wd} {D:List As} {f0:Int} {f1:List Int} {f2:List B1} {f3:List B0} {f4:List Int} {v1:Vl} {v2:Vl} {v3:Vl} {v4:Vl} {E2:Ty} {E3:Ty} {E4:Ty} (h0:xM f0) (H:Sep X N w0 w (ow (V:=Sl 1 xF) v1 f1::rl 3 xS E2 v2 f2::rl 3 xO E3 v3 f3::rl 1 xF E4 v4 f4::D)):Sep X N w0 w (ow (V:=qR 5 oK) (.agg #[.int .i64 f0,v1,v2,v3,v4]) (A9.mk f0 f1 f2 f3 f4)::D):= H.mg.mg.mg.dt (λ{Y} hP hm=>by
 obtain⟨Y4a,Y4b,⟨Y3a,Y3b,⟨Y2a,Y2b,⟨b1,r1,o1,x1⟩,⟨b2,c2,r2,o2,x2,y2⟩,d2,z2a,z2b⟩,⟨b3,c3,r3,o3,x3,y3⟩,d3,z3a,z3b⟩,⟨b4,c4,r4,o4,x4,y4⟩,d4,z4a,z4b⟩:=hP
 exact⟨_,oK.mk2 h0 r1 r2.rd r3.rd r4.rd,(((o1.append (r2.own o2) (λc h1 h2=>d2 c (x1 c h1) ((λc hc=>(Aj.1 hc).elim (x2 c) (y2 c)) c h2))).append (r3.own o3) (λc h1 h2=>d3 c ((λc hc=>(Aj.1 hc).elim (λh=>z2a c (x1 c h)) (λh=>z2b c ((λc hc=>(Aj.1 hc).elim (x2 c) (y2 c)) c h))) c h1) ((λc hc=>(Aj.1 hc).elim (x3 c) (y3 c)) c h2))).append (r4.own o4) (λc h1 h2=>d4 c ((λc hc=>(Aj.1 hc).elim (λh=>z3a c ((λc hc=>(Aj.1 hc).elim (λh=>z2a c (x1 c h)) (λh=>z2b c ((λc hc=>(Aj.1 hc).elim (x2 c) (y2 c)) c h))) c h)) (λh=>z3b c ((λc hc=>(Aj.1 hc).elim (x3 c) (y3 c)) c h))) c h1) ((λc hc=>(Aj.1 hc).elim (x4 c) (y4 c)) c h2))),(λc hc=>(Aj.1 hc).elim (λh=>z4a c ((λc hc=>(Aj.1 hc).elim (λh=>z3a c ((λc hc=>(Aj.1 hc).elim (λh=>z2a c (x1 c h)) (λh=>z2b c ((λc hc=>(Aj.1 hc).elim (x2 c) (y2 c)) c h))) c h)) (λh=>z3b c ((λc hc=>(Aj.1 hc).elim (x3 c) (y3 c)) c h))) c h)) (λh=>z4b c ((λc hc=>(Aj.1 hc).elim (x4 c) (y4 c)) c h)))⟩)
theorem Ln.sl {α:Type} {sz:Nat} {R:ER α}:Ln 1 (zV sz R) 0 (Sl sz R) (λx=>x) (λ_ y=>y):=λ_ _ _ b ⟨v,h,k⟩=>⟨v,b,[],h,k,vK,λ_ _ _ b s g k'=>⟨b,⟨v,(g 0 xG).trans h,k'⟩,vK⟩⟩
def wn {α β:Type} {V:VR α} {V':VR β} (v q:Vl) (g:β->α):As:= ⟨N0,λw Y=>∀ w',(∀ c∈Y,w'.heap[c]?=w.heap[c]?)->∀ y b3,Rd V' w' q y b3->Own 0 b3 w'->Dj Y b3->∃ bs,Rd V w' v (g y) bs/\Own 0 bs w'/\∀ c∈bs,c∈b3∨c∈Y,λh h1 _ _ w' hw=>h w' (λc hc=>(hw c hc).trans (h1 c hc))⟩
section
variable {X:List Nat} {N:Nat->Prop} {w0 w:Wd} {D:List As} {α β:Type} {sz:Nat} {R:ER α} [hR:FrC sz R] {V:VR α} [hV:VF V] {V':VR β} [hV':VF V'] {v:Vl} {l:List α}
theorem Sep.unw {q:Vl} {g:β->α} {y:β} (H:Sep X N w0 w (ow (V:=V') q y::wn (V:=V) (V':=V') v q g::D)):Sep X N w0 w (ow (V:=V) v (g y)::D):= H.mg.dt (λ{Y} ⟨Y1,Y2,⟨b3,r,o,s⟩,hw,dj,y1,y2⟩ _=>let ⟨bs,h1,h2,h3⟩:=hw w (λ_ _=>rfl) y b3 r o (λc hc qa=>dj c (s c qa) hc);⟨bs,h1,h2,λc hc=>(h3 c hc).elim (λh=>y1 c (s c h)) (y2 c)⟩)
theorem Sep.ln {f i:Nat} {x:α} {p:Vl} {g:α->β} {s:α->β->α} (hL:Ln sz R f V' g s) (H:Sep X N w0 w (ow (V:=Sl sz R) v l::D)) (hp:OPf v sz i f p) (hi:l[i]?=some x):∃ b o q,p= .pointer (some ⟨b,o,none⟩)/\w.cell? ⟨b,o,none⟩=some q/\Sep X N w0 w (ow (V:=V') q (g x)::wn (V:=Sl sz R) (V':=V') v q (λy=>l.set i (s x y))::D):=by
 obtain⟨Y,⟨bs,rd,ow0,hs⟩,hN,hY,tr⟩:=H.hd;obtain⟨b,o,m,c,rfl,rfl⟩:=hp;obtain⟨ad,c1,e1,k1,k2,k3,k4⟩:=rd.r;have ql:=(Ac.1 hi).1;simp only[Value.slice.injEq] at e1;obtain⟨rfl,rfl,rfl⟩:=e1
 rcases k4 with ⟨rfl,_⟩ | ⟨b',o',bss,e2,rfl,hb,he⟩
 ·simp at ql
 simp only[Option.some.injEq,Addr.mk.injEq,and_true] at e2;obtain⟨rfl,rfl⟩:=e2;have qe:i<bss.length:=xG;have qm:=Aa qe;obtain⟨q,b1,b2,hq,qn,qi,hw⟩:=hL _ _ _ _ (he i x _ hi qm);have qc:=List.nodup_cons.1 ow0.1;have qf:=uN qc.2 qm;have qj:=Ci.1 (qi.nodup_iff.1 qf.1);have m1:∀ c∈b1,c∈bss[i]:=λc hc=>qi.mem_iff.2 (Bq _ hc);have m2:∀ c∈b2,c∈bss[i]:=λc hc=>qi.mem_iff.2 (Bm _ hc);have mi:∀ c∈bss[i],c∈bss.flatten:=λc hc=>Bl.2 ⟨_,Bs qe,hc⟩;have ms:∀ c∈(bss.set i []).flatten,c∈bss.flatten:=λc hc=>eZ hc
 have mb:∀ c,c∈b::((bss.set i []).flatten++b2)->c∈b::bss.flatten:=λc hc=>by
  rcases Av.1 hc with rfl | hc
  ·simp
  ·exact At _ ((Aj.1 hc).elim (ms c) (λh=>mi c (m2 c h)))
 refine⟨_,_,q,rfl,hq,Sep.um (tr (Z:=[]) (λ_ h=>nomatch h) (B5.refl _ _) (B:=pr (ow (V:=V') q (g x)) (wn (V:=Sl sz R) (V':=V') _ q (λy=>l.set i (s x y)))) (Y1:=Y) ⟨b1,b::((bss.set i []).flatten++b2),⟨b1,⟨qn,λc hc=>rd.m c (At _ (mi c (m1 c hc)))⟩,⟨qj.1,λc hc=>ow0.2 c (At _ (mi c (m1 c hc)))⟩,λ_ h=>h⟩,λw' qg y b3 r3 o3 dj=>?_,λc h1 h2=>?_,λc hc=>hs c (At _ (mi c (m1 c hc))),λc hc=>hs c (mb c hc)⟩ (λc hc=>hc.elim (n0 c) (n0 c)) (λc hc=>⟨.inl hc,(hY c hc).1⟩))⟩
 ·have qa:∀ o,w'.cell? ⟨b,o,none⟩=w.cell? ⟨b,o,none⟩:=λo=>pZ (qg b vK) o
  have own':∀ c∈b::((bss.set i []).flatten++b2),0<=c/\∃ cur e,w'.heap[c]?=some (.cells cur e (0,0)):=λc hc=>by rw[qg c hc];exact ow0.2 c (mb c hc)
  obtain⟨bn,hr,qh⟩:=hw w' (λj=>w'.cell? ⟨b,o+i*sz+j,none⟩) y b3 (λc hc=>qg c (by simp [hc])) (λj _=>qa _) r3.r;have on:Own 0 bn w':=⟨qh.nodup_iff.2 (Ci.2 ⟨o3.1,qj.2.1,λa h3 d h2 e=>dj d (by simp [h2]) (e ▸ h3)⟩),λc hc=>(Aj.1 (qh.mem_iff.1 hc)).elim (o3.2 c) (λh=>own' c (by simp [h]))⟩;have dn:Dj bn (bss.set i []).flatten:=λc hc h2=>(Aj.1 (qh.mem_iff.1 hc)).elim (λh=>dj c (by simp [h2]) h) (λh=>qf.2.2 c (m2 c h) h2);have hf:=xFo (bss:=bss.set i []) (i:=i) (bi:=bn) (w:=w') ⟨qf.2.1,λc hc=>own' c (by simp [hc])⟩ (Ai qe) on dn;rw[Ed] at hf;have mf:∀ c∈(bss.set i bn).flatten,c∈b3∨c∈(bss.set i []).flatten++b2:=λc hc=>(hf.2 c hc).elim (λh=>(Aj.1 (qh.mem_iff.1 h)).imp id (λh=>Bm _ h)) (λh=>.inr (Bq _ h));have qd:Own 0 (b::(bss.set i bn).flatten) w':=⟨List.nodup_cons.2 ⟨λhc=>?_,hf.1.1⟩,λc hc=>(Av.1 hc).elim (λe=>e ▸ own' b vK) (hf.1.2 c)⟩
  ·refine⟨b::(bss.set i bn).flatten,⟨⟨_,_,vK,vV k1,k2,k3,.inr ⟨b,o,bss.set i bn,rfl,rfl,by simp [hb],λj z bj hz hj=>?_⟩⟩,qd.inMem⟩,qd,λc hc=>(Av.1 hc).elim (λe=>.inr (by simp [e])) (λh=>(mf c h).imp id (λh=>At _ h))⟩
   by_cases qk:j=i
   ·subst qk
    rw[Ai ql] at hz;rw[Ai qe] at hj
    cases hz;cases hj
    exact hr
   ·rw[Ak (λe=>qk e.symm)] at hz hj
    refine hR.fr _ _ _ _ _ _ (he j z bj hz hj) (λc hc=>qg c ?_) (λq hq=>qa _);refine At _ (Bq _ (Bl.2 ⟨bj,Af (i:=j) ?_,hc⟩));rw[Ak (λe=>qk e.symm)];exact hj
  ·rcases mf b hc with h | h
   ·exact dj b vK h
   ·exact qc.1 ((Aj.1 h).elim (ms b) (λh=>mi b (m2 b h)))
 ·rcases Av.1 h2 with rfl | h2
  ·exact qc.1 (mi _ (m1 _ h1))
  ·rcases Aj.1 h2 with h | h
   ·exact qf.2.2 c (m1 c h1) h
   ·exact qj.2.2 c h1 c h rfl
end
section
variable {P:Program} {ops:Array Oper} {Q:Exit->Act->Wd->Prop} {a:Act} {w w0 w1:Wd} {n:Nat} {L:List (Nat×Vl)} {rest:List Oper} {d:Nat} {ty:Ty} {pos:String} {af:Array Edge} {g:Option (Nat×Bool)} {N:Nat->Prop} {X:List Nat} {D:List As} {ρ:Type} {tt:Option ρ} {CC:ρ->Prop} {α:Type} {sz:Nat} {R:ER α} [hR:FrC sz R] {v p:Vl} {l l':List α} {t E:Ty} {x y:Operand}
theorem oRw {iy:Operand} {i:Int} {u:α} (ht:P.underlying t=some (.slice E)) (qc:∀ w,(sizeOf E).run P w= .ok sz w)
 (F:Sk a n L) (hc:vR ops n L g d=true) (he:ev L x=some v) (hi:ev L iy=some (.int .i64 i)) (H:Sep X N w0 w D) (j:Nat) (hj:D[j]?=some (ow (V:=Sl sz R) v l)) (qd:ix l i=some u)
 (k:∀ a' p,OPf v sz i.toNat 0 p->Sk a' n ((d,p)::L)->wpList P ops Q rest a' w):wpList P ops Q (⟨some d,.indexAddr t x iy,ty,pos,af,g⟩::rest) a w:=by
 obtain⟨bs,h,hA⟩:=H.o j hj;obtain⟨h0,hy⟩:=aE qd;obtain⟨hk,rfl⟩:=Ac.1 hy;obtain⟨a',c',rfl,h1,h2,h3,h4⟩:=h.r.open;obtain⟨b,o,bss,bi,rfl,rfl,_,_,hs,hr⟩:=h4 i.toNat hk;refine zT (v:=.pointer (some ⟨b,o+i.toNat*sz,none⟩)) (w':=w) F hc ?_ (λa' F'=>k a' _ ⟨b,o,_,c',rfl,rfl⟩ F');have qa:=cJ b o (i.toNat*sz)
 unfold execOp
 simp only[F.ev he,F.ev hi];have qe:i<(l.length:Int):=xG
 simp [Instr.indexAt,run_underlying ht,asIntOf,h0,qe,qc,qa]
theorem jRw {iy:Operand} {i:Int} {u:α} [ht:Ug P t (.slice E)] [qa:Sz P E sz] (j:Nat) (qc:ix l i=some u) (kt:∀ p,OPf v sz i.toNat 0 p->J n X N w0 ((d,p)::L) D tt CC (wpList P ops Q rest)) (hc:vR ops n L g d=true:=by rfl) (he:ev L x=some v:=by rfl) (hi:ev L iy=some (.int .i64 i):=by rfl) (hj:D[j]?=some (ow (V:=Sl sz R) v l):=by rfl):J n X N w0 L D tt CC (wpList P ops Q (⟨some d,.indexAddr t x iy,ty,pos,af,g⟩::rest)):=⟨λa w F H xq h1 h2=>oRw ht.h qa.h F hc he hi H j hj qc (λa' p x0 F'=>(kt p x0).h a' w F' H xq h1 h2)⟩
theorem jFw {kk i f off:Nat} [hp:Fd P t kk off] (hq:OPf v sz i f p) (kt:∀ p',OPf v sz i (f+off) p'->J n X N w0 ((d,p')::L) D tt CC (wpList P ops Q rest)) (hc:vR ops n L g d=true:=by rfl) (he:ev L x=some p:=by rfl):J n X N w0 L D tt CC (wpList P ops Q (⟨some d,.fieldAddr t x kk,ty,pos,af,g⟩::rest)):=⟨λa w F H xq h1 h2=>by
 obtain⟨b,o,m,c,rfl,rfl⟩:=hq
 exact xRc hp.h F hc he rfl (λa' F'=>(kt _ ⟨b,o,m,c,rfl,by rw[Dn]⟩).h a' w F' H xq h1 h2)⟩
theorem jLw {β:Type} {V':VR β} [hV':VF V'] {f i:Nat} {u:α} {gg:α->β} {s:α->β->α} [hag:Ag P t false] (hL:Ln sz R f V' gg s) (hp:OPf v sz i f p) (hi:l[i]?=some u) (kt:∀ q,J n X N w0 ((d,q)::L) (ow (V:=V') q (gg u)::wn (V:=Sl sz R) (V':=V') v q (λy=>l.set i (s u y))::D) tt CC (wpList P ops Q rest)) (hc:vR ops n L g d=true:=by rfl) (he:ev L x=some p:=by rfl):J n X N w0 L (ow (V:=Sl sz R) v l::D) tt CC (wpList P ops Q (⟨some d,.load t x,ty,pos,af,g⟩::rest)):=⟨λa w F H xq h1 h2=>by
 obtain⟨b,o,q,rfl,hq,H'⟩:=H.ln hL hp hi
 exact zT F hc (nW hag.h F he hq) (λa' F'=>(kt q).h a' w F' H' xq h1 h2)⟩
theorem jSw {f i:Nat} {u z:α} {e:Vl} [hsz:Sz P t 1] (hT:St sz R f e u z) (hp:OPf v sz i f p) (hi:l[i]?=some u) (hl:l.set i z=l') (kt:J n X N w0 L (ow (V:=Sl sz R) v l'::D) tt CC (wpList P ops Q rest)) (hf:Nat.blt f sz=true:=by rfl) (hone:e.oneCell'=true:=by rfl) (hc:gok ops L g=true:=by rfl) (hx:ev L x=some p:=by rfl) (hy:ev L y=some e:=by rfl):J n X N w0 L (ow (V:=Sl sz R) v l::D) tt CC (wpList P ops Q (⟨none,.store t x y,ty,pos,af,g⟩::rest)):=⟨λa w F H xq h1 h2=>by
 obtain⟨Y,⟨bs,rd,ow0,hs⟩,hN,hY,tr⟩:=H.hd;obtain⟨b,o,m,c,rfl,rfl⟩:=hp;obtain⟨ad,c1,e1,k1,k2,k3,k4⟩:=rd.r;have qj:=(Ac.1 hi).1;simp only[Value.slice.injEq] at e1;obtain⟨rfl,rfl,rfl⟩:=e1
 rcases k4 with ⟨rfl,_⟩ | ⟨b',o',bss,e2,rfl,hb,he⟩
 ·simp at qj
 simp only[Option.some.injEq,Addr.mk.injEq,and_true] at e2;obtain⟨rfl,rfl⟩:=e2
 have qn:f<sz:=by rwa [Nat.blt_eq] at hf
 have qo:i<bss.length:=xG;have qf:=Aa qo;obtain⟨_,cur,ee,qg⟩:=ow0.2 b vK;have hK:lG w b cur ee:=qg;obtain⟨u0,qk,_⟩:=hR.tot _ _ _ _ (he i u _ hi qf) f qn
 have ql:o+i*sz+f<cur.size:=by
  rw[hK.cell] at qk;exact(Cz.1 qk).1
 subst hl;have qh:=List.nodup_cons.1 ow0.1;refine xFt hsz.h F hc hx hy hK hone ql rfl (λw' K' lo=>kt.h a w' F (tr (Z:=[b]) (λc hc=>hs c (by rw[Ay] at hc;simp [hc])) lo (B:=ow (V:=Sl sz R) _ (l.set i z)) (Y1:=Y) ?_ n0 (λc hc=>⟨.inl hc,Au (hY c hc).1 lo.size⟩)) xq h1 h2)
 have qa:∀ j,w'.cell? ⟨b,j,none⟩=if j=o+i*sz+f then some e else w.cell? ⟨b,j,none⟩:=λj=>by
  rw[K'.cell,hK.cell,Ca]
  by_cases hj:o+i*sz+f=j
  ·rw[if_pos hj,if_pos hj.symm,if_pos ql]
  ·rw[if_neg hj,if_neg (λe=>hj e.symm)]
 have qd:Own 0 (b::bss.flatten) w':=⟨ow0.1,λc hc=>by
  by_cases qm:c=b
  ·subst qm;exact⟨Bi _,_,_,K'⟩
  ·rw[lo.block c (rd.m c hc) (vV qm)];exact ow0.2 c hc⟩
 refine⟨b::bss.flatten,⟨⟨_,_,vK,vV k1,k2,k3,.inr ⟨b,o,bss,rfl,rfl,by simp [hb],λj y' bj qe hj=>?_⟩⟩,qd.inMem⟩,qd,hs⟩
 have qc:pJ bj w w':=λc hc=>lo.block c (rd.m c (At _ (Bl.2 ⟨bj,Af hj,hc⟩))) (λe=>by
  rw[Ay] at e
  exact qh.1 (e ▸ Bl.2 ⟨bj,Af hj,hc⟩))
 by_cases qi:j=i
 ·subst qi
  rw[Ai qj] at qe;rw[qf] at hj
  cases qe;cases hj
  refine hT w' _ _ _ (hR.fr _ _ _ _ _ _ (he j u _ hi qf) qc (λ_ _=>rfl)) (by simp only[qa,if_true]) (λq hq hqf=>by simp only[qa];rw[if_neg xG])
 ·rw[Ak (λe=>qi e.symm)] at qe
  refine hR.fr _ _ _ _ _ _ (he j y' bj qe hj) qc (λq hq=>?_);have:=xAa qi hq;simp only[qa]
  rw[if_neg xG]⟩
end
end
end Go.Proofs.YtomlfdagbmgmgaaGreat
