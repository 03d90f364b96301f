import Derived.ProofKit
import Derived.OpenShut
import Derived.Deep.Slices
import Derived.Deep.Fields
import Derived.Test.YtomlfdagbmgmgaaGreatRows
import Derived.Test.YtomlfdagbmgmgaaGreatMQG
namespace Go.Proofs.YtomlfdagbmgmgaaGreat
set_option linter.unusedVariables false
set_option linter.unusedSimpArgs false
section
variable {p:Int} {Y:List B2} {L:List A8} {S:List rowT} {X0:List B2} {pl:List Int}
def eqr (e:A8):B2:=⟨e.left,e.right,[]⟩
def e00:A8:=⟨[],0⟩
def kills (p:Int) (n:Nat) (L:List A8) (w:Nat->Int):Prop:=∀ e∈L,p ∣ pT n (eqr e) w
def eqe (n:Nat) (L:List A8) (i c:Nat):Int:=mV n (eqr (L.getD i e00)) c
def xNq (p:Int) (n:Nat) (e:A8):Prop:=e.left.length=n/\(∀ a∈e.left,gB p a)/\gB p e.right
structure C3 (p:Int) (n:Nat) (L:List A8):Prop where
  ok:∀ e∈L,xNq p n e
  b:∃ b:Nat->Nat,(∀ i j,i<j->j<L.length->b i<b j)/\(∀ i,i<L.length->b i<n)/\(∀ i j,i<L.length->j<L.length->eqe n L i (b j)=if i=j then 1 else 0)/\∀ i c,i<L.length->c<b i->eqe n L i c=0
theorem xLf {i:Nat} {e:A8} (h:L[i]?=some e):L.getD i e00=e:=by rw[Ap,h];rfl
theorem xNq.below {n c:Nat} {e:A8} (h:xNq p n e) (hp:0<p):gB p (mV n (eqr e) c):=by
 unfold mV
 by_cases hc:c<n
 ·rw[if_pos hc]
  have hl:c<e.left.length:=by rw[h.1];exact hc
  have:e.left.getD c 0=e.left[c]:=kP (Aa hl)
  show gB p (e.left.getD c 0)
  rw[this];exact h.2.1 _ (Bs _)
 ·rw[if_neg hc];exact h.2.2
theorem C3.red {n:Nat} (hp:2<=p) (h:C3 p n L) {K:(Nat->Int)->Prop} (hK:∀ w,kills p n L w↔K w):∃ b,Red p (n+1) (λe=>∀ w,K w->p ∣ sm (n+1) (λc=>e c*w c)) L.length (eqe n L) b:=by
 obtain⟨b,b1,b2,b3,b4⟩:=h.b
 have qa:∀ i,i<L.length->L.getD i e00∈L:=λi hi=>by rw[xLf (Aa hi)];exact Bs _
 refine⟨b,b1,λi hi=>Nat.lt_succ_of_lt (b2 i hi),λi hi w hw=>(hK w).2 hw _ (qa i hi),λi c hi _=>(h.ok _ (qa i hi)).below xG,b3,b4,λw hw e he=>he w ((hK w).1 λe' qc=>?_)⟩;obtain⟨i,hi,rfl⟩:=Bx qc;have:=hw i hi;have e1:L.getD i e00=L[i]:=xLf (Aa hi)
 unfold eqe at this
 rw[e1] at this;exact this
theorem C3.uniq {n:Nat} {L':List A8} (hp:2<=p) (h:C3 p n L) (h':C3 p n L') (hk:∀ w,kills p n L w↔kills p n L' w):L=L':=by
 obtain⟨b,hb⟩:=h.red hp hk;obtain⟨b',qc⟩:=h'.red hp (K:=kills p n L') (λ_=>Iff.rfl);obtain⟨u1,u2⟩:=hb.uniq hp qc;refine List.ext_getElem u1 λi hi qa=>?_;have g1:L.getD i e00=L[i]:=xLf (Aa hi);have g2:L'.getD i e00=L'[i]:=xLf (Aa qa)
 have ent:∀ c,c<n+1->mV n (eqr L[i]) c=mV n (eqr L'[i]) c:=λc hc=>by
  have:=(u2 i hi).2 c hc
  unfold eqe at this
  rwa [g1,g2] at this
 have o1:=h.ok _ (Bs hi);have o2:=h'.ok _ (Bs qa)
 have hr:L[i].right=L'[i].right:=by
  have:=ent n xG
  unfold mV at this
  rwa [if_neg xG,if_neg xG] at this
 have hl:L[i].left=L'[i].left:=by
  refine List.ext_getElem (by rw[o1.1,o2.1]) λc h1 h2=>?_
  have hc:c<n:=by have:=o1.1;omega
  have:=ent c xG
  unfold mV at this
  rw[if_pos hc,if_pos hc] at this;have a1:(eqr L[i]).left.getD c 0=L[i].left[c]:=kP (Aa h1);have a2:(eqr L'[i]).left.getD c 0=L'[i].left[c]:=kP (Aa h2)
  rwa [a1,a2] at this
 generalize L[i]=e1 at hr hl;generalize L'[i]=e2 at hr hl
 cases e1;cases e2
 simp only at hr hl;rw[hr,hl]
theorem C3.len {n:Nat} (h:C3 p n L):L.length<=n:=by
 obtain⟨b,b1,b2,_⟩:=h.b
 have key:∀ i,i<L.length->i<=b i:=by
  intro i
  induction i with
  | zero=>intro _;omega
  | succ i ih=>intro hi;have:=ih xG;have:=b1 i (i+1) xG hi;omega
 by_cases h0:L.length=0
 ·omega
 ·have:=key (L.length - 1) xG
  have:=b2 (L.length - 1) xG
  omega
theorem xXd (p:Int) (n:Nat):C3 p n []:=⟨λe h=>by simp at h,λ_=>0,λi j _ h=>by simp at h,λi h=>by simp at h,λi j h=>by simp at h,λi c h=>by simp at h⟩
def xFr (d:Nat) (Y:List B2):List A8:=(Y.take d).map λy=>⟨y.left,y.right⟩
theorem xBt {d i:Nat} {y:B2} (hi:i<d) (h:Y[i]?=some y):(xFr d Y)[i]?=some ⟨y.left,y.right⟩:=by
 unfold xFr
 rw[Bc,List.getElem?_take_of_lt hi,h];rfl
theorem xCq {d:Nat} (h:d<=Y.length):(xFr d Y).length=d:=by unfold xFr;simp;omega
theorem B8.shape {n m:Nat} (h:B8 p n m n X0 pl S Y):C3 p n (xFr pl.length Y):=by
 have hlen:=h.len;have hle:=h.le;have hd:=xCq (d:=pl.length) (Y:=Y) xG
 have at':∀ i,i<pl.length->∃ r y,Y[i]?=some y/\C1 p n m r y/\(xFr pl.length Y)[i]?=some ⟨y.left,y.right⟩:=λi hi=>by
  obtain⟨r,y,y1,y2⟩:=h.at (k:=i) xG;exact⟨r,y,y1,y2,xBt hi y1⟩
 have ent:∀ i c,i<pl.length->c<n->eqe n (xFr pl.length Y) i c=lf Y i c:=λi c hi hc=>by
  obtain⟨r,y,y1,y2,y3⟩:=at' i hi
  unfold eqe mV
  rw[xLf y3,if_pos hc,nA y1];rfl
 have hb:∀ i,i<pl.length->∃ c:Nat,pl[i]?=some (c:Int)/\(pl.getD i 0).toNat=c:=λi hi=>by
  obtain⟨c,c1,_⟩:=h.piv i hi;refine⟨c,c1,?_⟩;rw[kP c1];omega
 refine⟨λe he=>?_,λi=>(pl.getD i 0).toNat,λi j qa hj=>?_,λi hi=>?_,λi j hi hj=>?_,λi c hi hc=>?_⟩
 ·obtain⟨i,hi,rfl⟩:=Bx he
  obtain⟨r,y,y1,y2,y3⟩:=at' i xG;rw[Aa hi] at y3;rw[Option.some.inj y3];exact⟨y2.nl,y2.lb,y2.rb⟩
 ·rw[hd] at hj
  obtain⟨a,a1,a2⟩:=hb i xG;obtain⟨b,b1,b2⟩:=hb j hj;have:=h.up i j a b qa a1 b1;simp only[a2,b2];omega
 ·rw[hd] at hi
  obtain⟨c,c1,c2,_⟩:=h.piv i hi;obtain⟨a,a1,a2⟩:=hb i hi;simp only[a2];rw[a1] at c1;have:=Option.some.inj c1
  omega
 ·rw[hd] at hi hj
  obtain⟨c,c1,c2,c3,c4⟩:=h.piv j hj;obtain⟨a,a1,a2⟩:=hb j hj;simp only[a2];rw[a1] at c1
  have:a=c:=by have:=Option.some.inj c1;omega
  subst this;rw[ent i a hi c2,c4 i xG]
 ·rw[hd] at hi
  obtain⟨c',c1,c2,c3,c4⟩:=h.piv i hi;obtain⟨a,a1,a2⟩:=hb i hi;simp only[a2] at hc;rw[a1] at c1
  have:a=c':=by have:=Option.some.inj c1;omega
  subst this;rw[ent i c hi xG,c3 c hc]
theorem B8.kills {n m:Nat} (h:B8 p n m n X0 pl S Y) (hz:∀ k y,pl.length<=k->Y[k]?=some y->y.right=0) (w:Nat->Int):kills p n (xFr pl.length Y) w↔∀ k,k<m->p ∣ pT n (X0.getD k xRu) w:=by
 rw[h.sem w];have hlen:=h.len;have hle:=h.le;have hd:=xCq (d:=pl.length) (Y:=Y) xG
 constructor
 ·intro hk k qc
  obtain⟨r,y,y1,y2⟩:=h.at qc;rw[fT y1]
  by_cases e:k<pl.length
  ·exact hk ⟨y.left,y.right⟩ (Af (xBt e y1))
  ·have:pT n y w=0:=by
    unfold pT
    refine xCu λc hc=>?_
    unfold mV
    by_cases qa:c<n
    ·rw[if_pos qa,<- nA y1,h.low k c xG qc qa,Int.zero_mul]
    ·rw[if_neg qa,hz k y xG y1,Int.zero_mul]
   rw[this];exact Int.dvd_zero p
 ·intro hk e he
  obtain⟨i,hi,rfl⟩:=Bx he;rw[hd] at hi;obtain⟨r,y,y1,y2⟩:=h.at (k:=i) xG;have g:=xBt hi y1;rw[Aa xG] at g;rw[Option.some.inj g];have:=hk i xG;rw[fT y1] at this;exact this
theorem B8.none {n m:Nat} (h:B8 p n m n X0 pl S Y) {w:Nat->Int} (hw:w n= -1) (h0:∀ k,k<m->p ∣ pT n (X0.getD k xRu) w):∀ k y,pl.length<=k->Y[k]?=some y->y.right=0:=by
 intro k y hk y1;have hlen:=h.len
 have qa:k<m:=by have:=(Ac.1 y1).1;omega
 obtain⟨r,y',y1',y2⟩:=h.at qa
 obtain rfl:y=y':=by rw[y1] at y1';exact Option.some.inj y1'
 have d:=(h.sem w).1 h0 k qa;rw[fT y1] at d
 have e:pT n y w=y.right*w n:=by
  unfold pT
  rw[sm,xCu λc hc=>?_]
  ·unfold mV;rw[if_neg xG];omega
  ·unfold mV
   rw[if_pos hc,<- nA y1,h.low k c hk qa hc,Int.zero_mul]
 rw[e,hw] at d;obtain⟨q,hq⟩:=d;obtain⟨r0,r1⟩:=y2.rb
 rcases Int.lt_trichotomy q 0 with g | g | g
 ·have:p*q<=p*(-1):=Dt xG xG
  omega
 ·subst g;omega
 ·have:p*1<=p*q:=Dt xG xG
  omega
end
section
theorem xYs {α:Type} {l:List α} {i:Nat} (h:i<=l.length):sl l (i:Int) (l.length:Int)=some (l.drop i):=by
 unfold sl
 rw[if_pos ⟨xG,xG,xG⟩,Ad,Ad,List.take_length]
theorem xOi {p z:Int} {n m:Nat} {r:rowT} {x:B2} (hp:1<=p/\p<=3) (hz:gB p z) (h0:z≠0) (hn:n<=500) (hm:m<=500) (h:C1 p n m r x):lA r p z=some (xAs (cD p (z - 1+p) x x))/\bO x z p=some (cD p (z - 1+p) x x)/\C1 p n m (xAs (cD p (z - 1+p) x x)) (cD p (z - 1+p) x x):=by
 have ht:0<=z - 1+p/\z - 1+p<=5:=by have:=hz.1;have:=hz.2;omega
 refine⟨?_,oAf hp hz h0 h,⟨rfl,rfl,by simp [cD,h.nl],by simp [cD,h.ml],wR hp ht h.lb h.lb,(xPf hp ht h.rb h.rb).2.2.2,wR hp ht h.bb h.bb⟩⟩
 unfold lA
 rw[zO (x:=z - 1) (by have:=hz.1;have:=hz.2;omega) (by have:=hz.1;have:=hz.2;omega),bnd_s,zO (x:=z - 1+p) xG xG,bnd_s,show rowT.mk r.numbers r.bys=r from rfl,xIb hp ht hn hm h h,bnd_s]
 rfl
theorem xRq {α:Type} {l:List α} {d j:Nat} {x y:α} (hd:d<l.length) (hj:j<l.length) (hy:l[j]?=some y) (hx:l[d]?=some x):((l.set d y).set j x)[d]?=some y:=by
 by_cases e:j=d
 ·subst e
  rw[Ai (by simp;omega),<- hx,hy]
 ·rw[Ak e,Ai hd]
theorem xXz {p:Int} {n m:Nat} {R:List rowT} {X:List B2} (h:C2 p n m R X) (hl:R.length=m):B8 p n m 0 X [] R X:= ⟨h,by have:=h.len;omega,vK,λk v _ _ h=>xG,λk h=>by simp at h,λi j a b _ h=>by simp at h,λw=>Iff.rfl⟩
theorem xEb {p:Int} {n m:Nat} {s:B3} (h:SysOk p n m s):∃ S Y pl X0,gO s=some (S,pl)/\cS s=some (Y,(pl.length:Int))/\B8 p n m n X0 pl S Y/\X0.map (λx=>(x.left,x.right))=s.list.map (λe=>(e.left,e.right)):=by
 obtain⟨R,X,q1,q2,q3,q4,q5⟩:=xUf (ρ:=List rowT×List Int) h;have hp:=h.p3;have qe:1<=p/\p<=3:=⟨xG,hp.2⟩;have hn:=h.n3;have hm:=h.m3
 have tw:bY (gO s) (cS s) (λa b=>∃ S Y pl,a=(S,pl)/\b=(Y,(pl.length:Int))/\B8 p n m n X pl S Y):=by
  unfold gO cS
  rw[q1,thn_nx,q2,bnd_s,h.un,Ad,h.pr];refine bY.thn (λa b=>∃ S Y pl,a=(pl,S)/\b=(Y,(pl.length:Int))/\B8 p n m n X pl S Y) (λ_ _=>False) (bY.mono (bY.forI 0 (λu a b=>∃ S Y pl,a=(pl,S)/\b=(Y,((pl.length:Nat):Int))/\B8 p n m u X pl S Y) (λ_ _=>False) ⟨R,X,[],rfl,rfl,xXz q3 q4⟩ (λu a b _ hu hR=>?_)) (λa b qa=>?_)) (λa b qa=>?_) (λ_ _ h=>h.elim)
  ·obtain⟨S,Y,pl,rfl,rfl,I⟩:=hR
   simp only[Cd];have qc:u<n:=xG
   have hSl:S.length=m:=by have:=I.rows.len;have:=I.len;omega
   have hYl:=I.len;have hle:=I.le;obtain⟨j,j1,j2,j3,j4,j5,j6⟩:=xRx (ρ:=Ctl ((List B2)×Int) (List B2×Int)) I.rows qc (S.length - pl.length) pl.length 0 xG;have qd:((Y.length:Int) - (pl.length:Int)).toNat=S.length - pl.length:=xG;rw[xYs xG,bnd_s]
   unfold kO
   rw[j5,qd,j6 0,thn_nx]
   by_cases hj:j<S.length
   ·rw[if_pos hj,thn_ret,bnd_s]
    obtain⟨rj,yj,g1,g2,g3⟩:=I.rows.get (k:=j) hj;obtain⟨rd,yd,f1,f2,f3⟩:=I.rows.get (k:=pl.length) xG;have hz:=j4 hj;rw[nA g2] at hz;obtain⟨a1,a2,a3⟩:=g3.at qc;obtain⟨t1,t2,t3⟩:=xOi qe a3 hz xG xG g3;have e0:(((pl.length:Nat):Int)+((0+(j - pl.length):Nat):Int))=(j:Int):=xG
    have c0:decide (((0+(j - pl.length):Nat):Int)<0)=false:=by rw[Db];omega
    have c1:((j:Int)==(Y.length:Int))=false:=by rw[Ds];omega
    rw[c0,if_neg vK,e0,zO xG xG,bnd_s,vD g1,bnd_s,vD f1,bnd_s];simp only[Ad,c1,Ah,if_false];rw[vD (xRq xG hj g1 f1),bnd_s,a1,bnd_s]
    unfold pO
    rw[bnd_s,t1,bnd_s,vD f2,bnd_s,vD g2,bnd_s,vD (xRq xG xG g2 f2),bnd_s,a2,bnd_s,t2,bnd_s];have hE:C2 p n m (((S.set pl.length rj).set j rd).set pl.length (xAs (cD p (yj.left.getD u 0 - 1+p) yj yj))) (((Y.set pl.length yj).set j yd).set pl.length (cD p (yj.left.getD u 0 - 1+p) yj yj)):=((I.rows.set g3).set f3).set t3;obtain⟨S',Y',b1,b2,b3,b4,b5,b6⟩:=xJv (ρ:=Ctl ((List Int)×(List rowT)) ((List rowT)×(List Int))) (ρ':=Ctl ((List B2)×Int) (List B2×Int)) (R:=[]) (u:=u) (done:=pl.length) (X:=((Y.set pl.length yj).set j yd).set pl.length (cD p (yj.left.getD u 0 - 1+p) yj yj)) (xd:=cD p (yj.left.getD u 0 - 1+p) yj yj) qe xG xG qc (Ai (by simp;omega)) Y.length 0 (((S.set pl.length rj).set j rd).set pl.length (xAs (cD p (yj.left.getD u 0 - 1+p) yj yj))) _ _ vK (by simp;omega) hE rfl (Ai (by simp;omega)) (λk _=>rfl) (λk x hk=>xG);have b1':=b1;rw[show rowT.mk (xAs (cD p (yj.left.getD u 0 - 1+p) yj yj)).numbers (xAs (cD p (yj.left.getD u 0 - 1+p) yj yj)).bys=xAs (cD p (yj.left.getD u 0 - 1+p) yj yj) from rfl];refine bY.thn (λa b=>a=S'/\b=Y') (λ_ _=>False) ⟨_,_,b1,b2,⟨rfl,rfl⟩⟩ (λa b qa=>?_) (λ_ _ h=>h.elim);obtain⟨rfl,rfl⟩:=qa;rw[aC (by simp only[Am];omega),bnd_s,zO xG xG,bnd_s];refine bY.s ⟨a,b,pl++[(u:Int)],rfl,vK,?_⟩;refine I.step hp qc j1 xG f2 g2 hz rfl b3 (by rw[b4];simp;omega) b5 (λk x hk hx=>b6 k x hk ?_);rw[Ak (λe=>hk e.symm)];exact hx
   ·have hjm:j=S.length:=xG
    rw[if_neg hj,thn_nx,bnd_s]
    have c1:((j:Int)==(Y.length:Int))=true:=by rw[De];omega
    rw[c1,if_pos rfl,if_pos kS];exact bY.s ⟨S,Y,pl,rfl,rfl,I.skip (λk h1 h2=>j3 k h1 xG)⟩
  ·rw[Bn] at qa
   exact qa
  ·obtain⟨S,Y,pl,rfl,rfl,I⟩:=qa
   exact bY.s ⟨S,Y,pl,rfl,rfl,I⟩
 obtain⟨a,b,t1,t2,S,Y,pl,rfl,rfl,I⟩:=tw;exact⟨S,Y,pl,X,t1,t2,I,q5⟩
end
section
variable {p:Int} {X0:List B2}
theorem tF {α ρ:Type} {b:Nat->α->Unit->Option (Ctl Unit ρ)}:∀ (l:List α) (k:Nat),(∀ j x,l[j]?=some x->b (k+j) x ()=some (.go ()))->oM b l k ()=some (.nx ())
 | [],k,_=>rfl
 | x::l,k,h=>by
  rw[vS (k:=k) (h 0 x rfl)];exact tF l (k+1) (λj y hj=>by rw[Dn,Ep 1 j];exact h (j+1) y hj)
theorem xLx {α ρ:Type} {b:Nat->α->Unit->Option (Ctl Unit ρ)} {r:ρ}:∀ (l:List α) (k j:Nat) (x:α),l[j]?=some x->(∀ i y,i<j->l[i]?=some y->b (k+i) y ()=some (.go ()))->b (k+j) x ()=some (.ret r)->oM b l k ()=some (.ret r)
 | [],k,j,x,h,_,_=>by simp at h
 | y::l,k,0,x,h,_,hr=>by
  cases h
  exact fE hr
 | y::l,k,j+1,x,h,hg,hr=>by
  rw[vS (k:=k) (hg 0 y xG rfl)];exact xLx l (k+1) j x h (λi z hi hz=>by rw[Dn,Ep 1 i];exact hg (i+1) z xG hz) (by rw[Dn,Ep 1 j];exact hr)
theorem xRs {ρ:Type} {b:Nat->Unit->Option (Ctl Unit ρ)} {r:ρ}:∀ (m k j:Nat),j<m->(∀ i,i<j->b (k+i) ()=some (.go ()))->b (k+j) ()=some (.ret r)->qU b m k ()=some (.ret r)
 | 0,k,j,h,_,_=>xG
 | m+1,k,0,_,_,hr=>lK hr
 | m+1,k,j+1,h,hg,hr=>by
  rw[zQ (k:=k) (hg 0 xG)];exact xRs m (k+1) j xG (λi hi=>by rw[Dn,Ep 1 i];exact hg (i+1) xG) (by rw[Dn,Ep 1 j];exact hr)
theorem oAg {α:Type} (l:List α) (p:α->Bool):(∀ (k:Nat) x,l[k]?=some x->p x=false)∨∃ (j:Nat) (x:α),l[j]?=some x/\p x=true/\∀ (k:Nat) y,k<j->l[k]?=some y->p y=false:=by
 induction l with
 | nil=>exact .inl λk x h=>by simp at h
 | cons a l ih=>
  by_cases ha:p a=true
  ·exact .inr ⟨0,a,rfl,ha,λk y h=>xG⟩
  ·have qa:p a=false:=vV ha
   rcases ih with ih | ⟨j,x,h1,h2,h3⟩
   ·left
    intro k x h
    cases k with
    | zero=>cases h;exact qa
    | succ k=>exact ih k x h
   ·right
    refine⟨j+1,x,h1,h2,λk y hk hy=>?_⟩
    cases k with
    | zero=>cases hy;exact qa
    | succ k=>exact h3 k y xG hy
theorem xBg {α:Type} {l:List α} {k:Nat} (h:k<=l.length):sl l 0 (k:Int)=some (l.take k):=by
 unfold sl
 rw[if_pos ⟨xG,xG,xG⟩,Ad]
 rfl
def xNx (x:B2):Bool:=!(x.left.any (· != 0)) && (x.right != 0)
theorem xWb (l:List Int):vP l (λa0=>nZ a0)=some (l.any (· != 0)):=by
 exact sW l _ _ (λx=>rfl)
theorem xFe {n m:Nat} {r:rowT} {x:B2} (hn:n<=500) (h:C1 p n m r x):eJ r=some x.right:=by
 have hl:r.numbers.length=n+1:=by rw[h.num,Ar,Am,h.nl]
 unfold eJ
 rw[hl,zO xG xG,bnd_s,show(((n+1:Nat):Int) - 1)=(n:Int) by omega,vD (x:=x.right) (by rw[h.num,Bb (by rw[h.nl];exact Az _),h.nl,Em];rfl),bnd_s]
theorem xUm {n m:Nat} {r:rowT} {x:B2} (hn:n<=500) (h:C1 p n m r x):cT r=some (xNx x):=by
 have hl:r.numbers.length=n+1:=by rw[h.num,Ar,Am,h.nl]
 have ht:r.numbers.take n=x.left:=by rw[h.num,Cx (by rw[h.nl];exact Az _),Cn (by rw[h.nl];exact Az _)]
 unfold cT sF
 rw[show rowT.mk r.numbers r.bys=r from rfl,xFe hn h,hl,zO xG xG,bnd_s,show(((n+1:Nat):Int) - 1)=(n:Int) by omega,xBg xG,bnd_s,ht,xWb,bnd_s,bnd_s]
 unfold xNx
 cases x.left.any (· != 0)<;>rfl
theorem oJs {n m:Nat} {r:rowT} {x:B2} (h:C1 p n m r x):r=xAs x:=by
 cases r
 unfold xAs
 have h1:=h.num
 have h2:=h.by'
 simp only at h1 h2;rw[h1,h2]
theorem xLq {n m:Nat} {pl:List Int} {S:List rowT} {Y:List B2} (I:B8 p n m n X0 pl S Y) {k:Nat} {y:B2} (hy:Y[k]?=some y):xNx y=if pl.length<=k then y.right != 0 else false:=by
 have qa:k<m:=by have:=(Ac.1 hy).1;have:=I.len;omega
 obtain⟨r,y',y1,y2⟩:=I.at qa
 obtain rfl:y=y':=by rw[hy] at y1;exact Option.some.inj y1
 unfold xNx
 by_cases h:pl.length<=k
 ·rw[if_pos h]
  have:y.left.any (· != 0)=false:=by
   rw[List.any_eq_false];intro a ha;obtain⟨c,hc,rfl⟩:=Bx ha;have h0:=I.low k c h qa (by have:=y2.nl;omega);rw[nA hy,kP (Aa hc)] at h0
   simp [h0]
  rw[this];rfl
 ·rw[if_neg h]
  obtain⟨c,c1,c2,c3,c4⟩:=I.piv k xG;have h1:=c4 k qa;rw[if_pos rfl,nA hy] at h1
  have hc:c<y.left.length:=by have:=y2.nl;omega
  rw[kP (Aa hc)] at h1
  have:y.left.any (· != 0)=true:=by
   rw[List.any_eq_true];exact⟨y.left[c],Bs _,by rw[h1];rfl⟩
  rw[this];rfl
theorem yR {n m:Nat} {pl:List Int} {S:List rowT} {Y:List B2} (I:B8 p n m n X0 pl S Y) (hn:n<=500) (hm:m<=500) :
 ((∀ (k:Nat) y,pl.length<=k->Y[k]?=some y->y.right=0)/\aP S=some (⟨[],[]⟩,false)/\dS Y (pl.length:Int)=some (-1)) ∨
 ∃ (j:Nat) (y:B2),pl.length<=j/\Y[j]?=some y/\C1 p n m (xAs y) y/\y.right≠0/\aP S=some (xAs y,true)/\dS Y (pl.length:Int)=some (j:Int):=by
 have hS:=I.rows.len;have hY:=I.len;have hle:=I.le;have cnt:((Y.length:Int) - (pl.length:Int)).toNat=Y.length - pl.length:=xG
 have body:∀ (i:Nat) r,S[i]?=some r->∃ y,Y[i]?=some y/\C1 p n m r y/\cT r=some (xNx y):=by
  intro i r hr;obtain⟨r',y,g1,g2,g3⟩:=I.rows.get (k:=i) (Ac.1 hr).1
  obtain rfl:r=r':=by rw[hr] at g1;exact Option.some.inj g1
  exact⟨y,g2,g3,xUm hn g3⟩
 rcases oAg Y xNx with hA | ⟨j,y,j1,j2,j3⟩
 ·left
  have hz:∀ (k:Nat) y,pl.length<=k->Y[k]?=some y->y.right=0:=λk y hk hy=>by
   have:=hA k y hy;rw[xLq I hy,if_pos hk] at this
   simpa using this
  refine⟨hz,?_,?_⟩
  ·unfold aP kO
   rw[tF S 0 (λi r hr=>by
    obtain⟨y,g2,g3,g4⟩:=body i r hr;simp only[g4,bnd_s,hA i y g2]
    rfl),thn_nx,bnd_s]
   rfl
  ·unfold dS
   rw[cnt,xEk (λi _ hi=>by
    have hx:Y[pl.length+i]?=some (Y[pl.length+i]'(xG)):=Aa xG;have h0:=hz _ _ xG hx;simp only;rw[show((pl.length:Int)+(i:Int))=((pl.length+i:Nat):Int) by omega,vD hx,bnd_s,h0]
    rfl),thn_nx]
 ·right
  have j4:=j2;rw[xLq I j1] at j4
  have hj:pl.length<=j:=by
   refine Classical.byContradiction λh=>?_;rw[if_neg h] at j4
   simp at j4
  rw[if_pos hj] at j4;have hjl:=(Ac.1 j1).1;obtain⟨r,y',g1,g2,g3⟩:=I.rows.get (k:=j) xG
  obtain rfl:y=y':=by rw[j1] at g2;exact Option.some.inj g2
  have hr:=oJs g3;refine⟨j,y,hj,j1,hr ▸ g3,vV j4,?_,?_⟩
  ·unfold aP kO
   rw[xLx (r:=(j:Int)) S 0 j r g1 (λi x hi hx=>by
    obtain⟨y',g2,g3,g4⟩:=body i x hx;simp only[g4,bnd_s,j3 i y' hi g2]
    rfl) (by
    obtain⟨y',g2',g3',g4⟩:=body j r g1
    obtain rfl:y=y':=by rw[j1] at g2';exact Option.some.inj g2'
    simp only[g4,bnd_s,j2,Bn]
    rfl),thn_ret,bnd_s,if_neg (by rw[Bj];omega),vD g1,bnd_s,hr]
  ·unfold dS
   rw[cnt,xRs (r:=(j:Int)) _ 0 (j - pl.length) xG (λi hi=>by
    have hx:Y[pl.length+i]?=some (Y[pl.length+i]'(xG)):=Aa xG;have h0:=j3 _ _ xG hx;rw[xLq I hx,if_pos xG] at h0;simp only;rw[show((pl.length:Int)+((0+i:Nat):Int))=((pl.length+i:Nat):Int) by omega,vD hx,bnd_s,h0]
    rfl) (by
    simp only;rw[show((pl.length:Int)+((0+(j - pl.length):Nat):Int))=(j:Int) by omega,vD j1,bnd_s,j4]
    rfl),thn_ret]
theorem xId {n m:Nat} {L:List A8} (h:X0.map (λx=>(x.left,x.right))=L.map (λe=>(e.left,e.right))) (hm:L.length=m) (w:Nat->Int):kills p n L w↔∀ k,k<m->p ∣ pT n (X0.getD k xRu) w:=by
 have hl:X0.length=L.length:=by simpa using congrArg List.length h
 have at':∀ (k:Nat) (hk:k<m),∃ x e,X0[k]?=some x/\L[k]?=some e/\pT n x w=pT n (eqr e) w:=by
  intro k hk;have h1:X0[k]?=some (X0[k]'(xG)):=Aa xG;have h2:L[k]?=some (L[k]'(xG)):=Aa xG;refine⟨_,_,h1,h2,?_⟩;have e:=congrArg (λl=>l[k]?) h;simp only[Bc,h1,h2,Cw,Option.some.injEq,Prod.mk.injEq] at e
  unfold pT mV eqr
  rw[e.1,e.2]
 constructor
 ·intro hk k qa
  obtain⟨x,e,x1,x2,x3⟩:=at' k qa;rw[fT x1,x3];exact hk e (Af x2)
 ·intro hk e he
  obtain⟨k,qc,rfl⟩:=Bx he;obtain⟨x,e',x1,x2,x3⟩:=at' k xG;have:=hk k xG;rw[fT x1,x3] at this;rw[Aa qc] at x2;rw[Option.some.inj x2];exact this
theorem xIe {n m:Nat} {s:B3} (h:SysOk p n m s) {w:Nat->Int} (hw:w n= -1) (hk:kills p n s.list w):∃ L,gS s=some ⟨p,(n:Int),L⟩/\eW s=some ⟨p,(n:Int),L⟩/\C3 p n L/\∀ w,kills p n L w↔kills p n s.list w:=by
 obtain⟨S,Y,pl,X0,r1,r2,I,hX⟩:=xEb h;have hn:=h.n3;have hm:=h.m3;have hz:=I.none hw ((xId hX h.ln w).1 hk);have hSl:=I.rows.len;have hYl:=I.len;have hle:=I.le;refine⟨xFr pl.length Y,?_,?_,I.shape,λw=>by rw[I.kills hz w,xId hX h.ln w]⟩
 ·unfold gS
  rw[show B3.mk s.prime s.unknowns s.list=s from rfl,r1,bnd_s]
  rcases yR I xG xG with ⟨_,c1,_⟩ | ⟨j,y,j0,j1,_,j2,c1,c2⟩
  ·rw[c1,bnd_s,if_neg vK,xBg (l:=S) (k:=pl.length) xG,bnd_s,h.pr,h.un]
   rw[lI (S.take pl.length) (λr=>A8.mk (r.numbers.take n) (r.numbers.getD n 0)) (λi r s' hr hs=>by
    have hi:i<pl.length:=by
     have:=(Ac.1 hr).1
     simp at this;omega
    rw[List.getElem?_take_of_lt hi] at hr;obtain⟨r',y,g1,g2,g3⟩:=I.rows.get (k:=i) (Ac.1 hr).1
    obtain rfl:r=r':=by rw[hr] at g1;exact Option.some.inj g1
    have hl:r.numbers.length=n+1:=by rw[g3.num,Ar,Am,g3.nl]
    have qa:r.numbers.getD n 0=y.right:=kP (by rw[g3.num,Bb (by rw[g3.nl];exact Az _),g3.nl,Em];rfl)
    rw[xBg xG,bnd_s,xCn (by rw[Bd];omega),bnd_s,show rowT.mk r.numbers r.bys=r from rfl,xFe xG g3,bnd_s,aC (by simp only[Am];omega),bnd_s,qa]) (S.take pl.length) 0 [] rfl rfl,thn_nx,Bp]
   congr 2
   refine List.ext_getElem (by rw[xCq xG];simp;omega) λi h1 h2=>?_
   have hi:i<pl.length:=by simp at h1;omega
   obtain⟨r,y,g1,g2,g3⟩:=I.rows.get (k:=i) xG;have hd:=xBt hi g2;rw[Aa h2] at hd;rw[Option.some.inj hd,List.getElem_map,List.getElem_take];rw[Aa xG] at g1;rw[Option.some.inj g1,g3.num,Cx (by rw[g3.nl];exact Az _),Cn (by rw[g3.nl];exact Az _)]
   congr 1
   exact kP (by rw[Bb (by rw[g3.nl];exact Az _),g3.nl,Em];rfl)
  ·exact absurd (hz j y j0 j1) j2
 ·unfold eW
  rw[r2,bnd_s]
  rcases yR I xG xG with ⟨_,c1,c2⟩ | ⟨j,y,j0,j1,_,j2,c1,c2⟩
  ·rw[c2,bnd_s,if_neg kS,h.pr,h.un,Ad]
   rw[rU (n:=pl.length) (λk=>A8.mk (Y.getD k xRu).left (Y.getD k xRu).right) (λi s' hi hs=>by
    have hx:Y[i]?=some (Y[i]'(xG)):=Aa xG
    rw[vD hx,bnd_s,aC (by simp only[Am];omega),bnd_s,fT hx]) pl.length 0 [] rfl xG,thn_nx,Bp]
   congr 2
   refine List.ext_getElem (by rw[xCq xG];simp) λi h1 h2=>?_;have hi:i<pl.length:=vV h1;have hx:Y[i]?=some (Y[i]'(xG)):=Aa xG;have hd:=xBt hi hx;rw[Aa h2] at hd;rw[Option.some.inj hd,List.getElem_map,List.getElem_range',Bn,Nat.one_mul,fT hx]
  ·exact absurd (hz j y j0 j1) j2
end
section
variable {p:Int}
theorem xDo {n:Nat} {e:A8} (hp:2<=p/\p<=3) (h:xNq p n e):mR p (n:Int) e=some true/\lH p (n:Int) e=some true:=by
 obtain⟨h1,h2,h3⟩:=h
 have hs:okS p=true:=by unfold okS;simp;omega
 have hv:∀ a,gB p a->okV p a=true:=λa ha=>by
  unfold gB at ha
  unfold okV
  simp;omega
 have qc:xAh p e.left (n:Int)=true:=by
  unfold xAh
  simp only[Be,Cm,De];exact⟨xG,λa ha=>hv a (h2 a ha)⟩
 constructor
 ·unfold mR
  rw[yZ hs,bnd_s,qc,if_pos rfl,xKv hs,bnd_s,hv _ h3]
  rfl
 ·unfold lH
  have qa:∀ a,gB p a->kR a 0 (p - 1)=some true:=λa ha=>by
   unfold gB at ha
   rw[dN]
   simp;omega
  rw[show((e.left.length:Int) != (n:Int))=false by rw[h1];simp,if_neg vK,zO (x:=p - 1) xG xG,bnd_s,qa _ h3,bnd_s,Br,thn_nx,if_neg vK]
  rw[tF e.left 0 (λj a ha=>by
   simp only;rw[bnd_s,qa _ (h2 a (Af ha)),bnd_s]
   rfl),thn_nx]
theorem xPx (l:List A8) (p:A8->Bool) (f:A8->Option Bool) (hf:∀ x∈l,f x=some (p x)):zW l f=some (l.any p):=by
 obtain⟨i,h1,h2⟩:=uJ l p f hf
 unfold zW aV
 rw[h1,bnd_s,<- h2]
theorem xOv {n m:Nat} {s:B3} (h:SysOk p n m s) (hn:1<=n/\n<=12) (hm:m<=24):fW s=some true/\uB s=some true:=by
 have hp:=h.p3
 have qa:(p==2 || p==3)=true:=by
  rw[Bool.or_eq_true,De,De];omega
 have hln:=h.ln
 constructor
 ·unfold fW
  rw[h.pr,h.un,(nD p).1,bnd_s,qa,if_pos rfl,eV,bnd_s];rw[show(decide ((1:Int)<=(n:Int)) && decide ((n:Int)<=12))=true by simp;omega,if_pos rfl,if_pos (by simp;omega)]
  rw[xPx s.list (λ_=>false) _ (λe he=>by
   unfold mT
   rw[show A8.mk e.left e.right=e from rfl];simp only;rw[(xDo hp (h.eq e he)).1,bnd_s]
   rfl),bnd_s]
  have:s.list.any (λ_=>false)=false:=vK;rw[this];rfl
 ·unfold uB
  rw[h.pr,h.un,(nD p).2,bnd_s,qa,Br,if_neg vK,dN,bnd_s];rw[show(decide ((1:Int)<=(n:Int)) && decide ((n:Int)<=12))=true by simp;omega,Br,if_neg vK,thn_nx,if_neg (by simp;omega)]
  rw[tF s.list 0 (λj e he=>by
   simp only;rw[(xDo hp (h.eq e (Af he))).2,bnd_s]
   rfl),thn_nx]
theorem xYy {n:Nat} (h:n<=400):nJ (0:Int) (n:Int)=some (List.replicate n 0):=by
 unfold nJ
 rw[if_pos ⟨xG,xG⟩,Ad]
theorem xZr {left:List Int} {c:Nat} (hc:c<left.length) (h1:left.getD c 0≠0) (h0:∀ v,v<c->left.getD v 0=0):mC left=some (c:Int):=by
 unfold mC
 rw[xLx (r:=(c:Int)) left 0 c (left[c]) (Aa hc) (λi y hi hy=>by
  have:=h0 i hi;rw[kP hy] at this;simp only[this]
  rfl) (by
  rw[kP (Aa hc)] at h1
  have:(left[c] != 0)=true:=by rw[bne_iff_ne];exact h1
  simp only[this,if_true,Bn]),thn_ret]
theorem xIy {n m:Nat} {s:B3} (h:SysOk p n m s) (hn:1<=n/\n<=12) (hm:m<=24):∃ r,gC s=some r/\gG s=some r/\r.1.length<=1000:=by
 obtain⟨v1,v2⟩:=xOv h hn hm;obtain⟨S,Y,pl,X0,r1,r2,I,_⟩:=xEb h;have hSl:=I.rows.len;have hYl:=I.len;have hle:=I.le
 have tw:bY (gC s) (gG s) (λa b=>a=b/\a.1.length<=1000):=by
  unfold gC gG
  rw[show B3.mk s.prime s.unknowns s.list=s from rfl];simp only[v1,v2,r1,r2,bnd_s,Br,Ah,if_false]
  rcases yR I xG xG with ⟨_,c1,c2⟩ | ⟨j,y,j0,j1,_,j2,c1,c2⟩
  ·simp only[c1,c2,bnd_s,Ah,if_false,show decide ((0:Int)<=-1)=false from rfl,h.un,xYy (n:=n) xG,Ad]
   rw[nH (g:=λ(k:Nat) (u:Int) (s1:List Int)=>xH (ix Y (k:Int)) λz1=>xH (mC z1.left) λz2=>xH (ix s1 z2) λz3=>some (.go (s1.set (z2).toNat z1.right))) pl 0 0 _ (λj x s hj=>rfl)]
   refine bY.thn (λa b=>a=b/\a.length=n) (λ_ _=>False) (bY.mono (bY.forL (λk a b=>a=b/\a.length=n) (λ_ _=>False) ⟨rfl,vK⟩ (λk x a b hk hR=>?_)) (λa b qa=>?_)) (λa b qa=>?_) (λ_ _ h=>h.elim)
   ·obtain⟨rfl,qd⟩:=hR
    rw[Bn];have qe:=(Ac.1 hk).1;obtain⟨c,c1,c2,c3,c4⟩:=I.piv k qe;rw[hk] at c1;obtain rfl:x=(c:Int):=Option.some.inj c1;obtain⟨r,y,g1,g2,g3⟩:=I.rows.get (k:=k) xG;have hone:=c4 k xG;rw[if_pos rfl,nA g2] at hone;have qc:ix a (c:Int)=some (a[c]'(xG)):=vD (Aa xG);rw[vD g1,bnd_s,xFe xG g3,bnd_s,qc,bnd_s,vD g2,bnd_s,xZr (c:=c) (by rw[g3.nl];exact c2) (by rw[hone];decide) (λv hv=>by rw[<- nA g2];exact c3 v hv),bnd_s,qc,bnd_s];exact bY.s ⟨rfl,by simp [qd]⟩
   ·cases a<;>cases b<;>first | exact qa | exact qa.1
   ·obtain⟨rfl,h5⟩:=qa;exact bY.s ⟨rfl,by show a.length<=1000;omega⟩
  ·have e0:decide (0<=(j:Int))=true:=by rw[Bj];omega
   simp only[c1,c2,bnd_s,e0,if_true];exact bY.s ⟨rfl,Bi _⟩
 obtain⟨a,b,t1,t2,rfl,t3⟩:=tw;exact⟨a,t1,t2,t3⟩
theorem xHt {n m:Nat} {s:B3} (h:SysOk p n m s) (hn:1<=n/\n<=12) (hm:m<=24):∃ r,iR s=some r/\fF s=some r/\r.1.length<=1000:=by
 obtain⟨v1,v2⟩:=xOv h hn hm;obtain⟨S,Y,pl,X0,r1,r2,I,_⟩:=xEb h;have hp:=h.p3
 unfold iR fF
 rw[show B3.mk s.prime s.unknowns s.list=s from rfl];simp only[v1,v2,r1,r2,bnd_s,Br,Ah,if_false,h.pr]
 rcases yR I xG xG with ⟨_,c1,c2⟩ | ⟨j,y,j0,j1,j3,j2,c1,c2⟩
 ·simp only[c1,c2,bnd_s]
  exact⟨_,rfl,rfl,Bi _⟩
 ·obtain⟨t1,t2,t3⟩:=xOi (p:=p) ⟨xG,hp.2⟩ j3.rb j2 xG xG j3
  have e0:decide ((j:Int)<0)=false:=by rw[Db];omega
  simp only[c1,c2,bnd_s,Br,Ah,if_false,e0];rw[show rowT.mk (xAs y).numbers (xAs y).bys=xAs y from rfl,xFe xG j3,bnd_s]
  unfold pO
  rw[bnd_s,t1,bnd_s,vD j1,bnd_s,t2,bnd_s];exact⟨_,rfl,rfl,Cb (Nat.le_of_eq t3.ml) xG⟩
end
section
variable {p:Int} {e:A8} {T:Nat} {t:List Int}
def sE:List Int->List Int->Int | a::l,b::m=>a*b+sE l m | _,_=>0
theorem xOh:∀ (l m:List Int),sE l m=sE m l
 | [],[]=>rfl
 | [],_::_=>rfl
 | _::_,[]=>rfl
 | a::l,b::m=>by simp only[sE];rw[xOh l m,Int.mul_comm]
theorem xPs:∀ (l m:List Int),(∀ a∈l,gB 3 a)->(∀ a∈m,gB 3 a)->0<=sE l m/\sE l m<=4*l.length
 | [],m,_,_=>by simp [sE]
 | a::l,[],_,_=>by simp [sE];omega
 | a::l,b::m,hl,hm=>by
  have ih:=xPs l m (λx hx=>hl x (At _ hx)) (λx hx=>hm x (At _ hx));have ha:=hl a (Bg ..);have hb:=hm b (Bg ..)
  unfold gB at ha hb
  have h1:0<=a*b:=Et ha.1 hb.1;have h2:a*b<=2*2:=Int.mul_le_mul xG xG hb.1 xG;simp only[sE,Ao]
  omega
theorem xRv (f:Nat->Int):∀ n,sm (n+1) f=f 0+sm n (λi=>f (i+1))
 | 0=>by simp [sm]
 | n+1=>by
  rw[sm,xRv f n];simp only[sm]
  omega
theorem xVk:∀ (l m:List Int),l.length=m.length->sE l m=sm l.length (λc=>l.getD c 0*m.getD c 0)
 | [],[],_=>rfl
 | [],_::_,h=>by simp at h
 | _::_,[],h=>by simp at h
 | a::l,b::m,h=>by
  rw[Ao,xRv];simp only[sE,Di,Dr];rw[xVk l m (vV h)]
def ext (n:Nat) (t:List Int) (c:Nat):Int:=if c<n then t.getD c 0 else -1
theorem oFe {n:Nat} (he:e.left.length=n) (ht:t.length=n):pT n (eqr e) (ext n t)=sE e.left t - e.right:=by
 unfold pT
 rw[sm,xVk _ _ xG,he]
 have h1:sm n (λc=>mV n (eqr e) c*ext n t c)=sm n (λc=>e.left.getD c 0*t.getD c 0):=tL (λc hc=>by
  unfold mV ext eqr
  rw[if_pos hc,if_pos hc])
 rw[h1]
 unfold mV ext
 rw[if_neg xG,if_neg xG]
 show _+e.right * -1=_
 omega
theorem xEx {ρ:Type} (v:List Int):∀ (l m:List Int) (k:Nat) (s:Int),v.drop k=m->m.length=l.length->(∀ a∈l,gB 3 a)->(∀ a∈m,gB 3 a)->0<=s->s+4*l.length<=1000->oM (σ:=Int) (ρ:=ρ) (λk x s=>xH (ix v (k:Int)) λz=>xH (ck (x*z)) λz1=>xH (ck (s+z1)) λz2=>some (.go z2)) l k s=some (.nx (s+sE l m))
 | [],m,k,s,_,h,_,_,_,_=>by
  have:m=[]:=Cc.1 h;subst this
  simp [oM,sE]
 | a::l,[],k,s,_,h,_,_,_,_=>by simp at h
 | a::l,b::m,k,s,hd,h,hl,hm,h0,h1=>by
  have hb:v[k]?=some b:=by rw[<- Ev,hd];rfl
  have qc:v.drop (k+1)=m:=by rw[<- Es,hd];rfl
  have ha:=hl a (Bg ..);have qa:=hm b (Bg ..)
  unfold gB at ha qa
  have p1:0<=a*b:=Et ha.1 qa.1;have p2:a*b<=2*2:=Int.mul_le_mul xG xG qa.1 xG;rw[Ao] at h1;rw[vS (s':=s+a*b) (by rw[vD hb,bnd_s,zO xG xG,bnd_s,zO xG xG,bnd_s]),xEx v l m (k+1) (s+a*b) qc (vV h) (λx hx=>hl x (At _ hx)) (λx hx=>hm x (At _ hx)) xG xG];simp only[sE];rw[Int.add_assoc]
theorem xTc {a:Int} (hp:2<=p/\p<=3) (ha: -10000<=a/\a<=10000):kX a p=some (a % p):=by
 have e1:rm a p=some (a.tmod p):=by unfold rm;rw[if_neg xG]
 have hb: -p<a.tmod p/\a.tmod p<p/\(a.tmod p+p).tmod p=a % p:=by
  by_cases h:0<=a
  ·rw[Cp h]
   have:=Fb a (b:=p) xG;have:=Ek a (b:=p) xG;refine⟨xG,xG,?_⟩;rw[Cp xG,Int.add_emod_right,Int.emod_emod]
  ·obtain⟨b,rfl⟩:∃ b,a= -b:=⟨-a,xG⟩
   rw[Int.neg_tmod,Cp xG];have:=Fb b (b:=p) xG;have:=Ek b (b:=p) xG;refine⟨xG,xG,?_⟩;rw[Cp xG];have:p=2∨p=3:=xG
   rcases this with rfl | rfl<;>omega
 unfold kX
 rw[e1,bnd_s,zO xG xG,bnd_s]
 have e2:rm (a.tmod p+p) p=some ((a.tmod p+p).tmod p):=by unfold rm;rw[if_neg xG]
 rw[e2,bnd_s,hb.2.2]
def xAk (p:Int) (e:A8) (t:List Int):Bool:=decide (p ∣ sE e.left t - e.right)
theorem xQe (hp:p<=3) {l:List Int} (h:∀ a∈l,gB p a):∀ a∈l,gB 3 a:=λa ha=>⟨(h a ha).1,by have:=(h a ha).2;omega⟩
theorem xOd {n:Nat} (hp:2<=p/\p<=3) (hn:n<=100) (he:xNq p n e) (ht:t.length=n/\∀ a∈t,gB p a):wC p e t=some (xAk p e t)/\iI p e t=some (xAk p e t):=by
 have b1:=xQe hp.2 he.2.1;have b2:=xQe hp.2 ht.2;have hl:=he.1;have ht1:=ht.1;have hr:=he.2.2
 unfold gB at hr
 have hd:=xPs e.left t b1 b2
 constructor
 ·unfold wC
  rw[xEx t e.left t 0 0 rfl xG b1 b2 xG xG,thn_nx]
  have:rm (0+sE e.left t) p=some ((0+sE e.left t).tmod p):=by unfold rm;rw[if_neg xG]
  rw[this,bnd_s,Int.zero_add,Cp hd.1]
  congr 1
  unfold xAk
  have:p=2∨p=3:=xG;rw[Bool.eq_iff_iff,De,Bj]
  rcases this with rfl | rfl<;>omega
 ·unfold iI
  have hf:(λ(k1:Nat) (x1:Int) (s1:Int)=>xH (ix e.left (k1:Int)) λz3=>xH (ck (z3*x1)) λz4=>xH (ck (s1+z4)) λz5=>some (Ctl.go (ρ:=Bool) z5))=(λ(k:Nat) (x:Int) (s:Int)=>xH (ix e.left (k:Int)) λz=>xH (ck (x*z)) λz1=>xH (ck (s+z1)) λz2=>some (Ctl.go (ρ:=Bool) z2)):=by
   funext k x s
   congr 1
   funext z
   rw[Int.mul_comm]
  rw[hf,xEx e.left t e.left 0 0 rfl xG b2 b1 xG xG,thn_nx,Int.zero_add,xOh t e.left,zO xG xG,bnd_s,xTc hp xG,bnd_s]
  congr 1
  unfold xAk
  have:p=2∨p=3:=xG;rw[Bool.eq_iff_iff,De,Bj]
  rcases this with rfl | rfl<;>omega
theorem oCx:∀ T∈[2,3],∀ n∈[1,2,3,4,5],vO (T:Nat) (n:Nat)=some ((vQ T n).length:Int)/\qQ 10 (T:Nat) (n:Nat)=some ((vQ T n).length:Int)/\1<=(vQ T n).length/\(vQ T n).length<=243/\(vQ T n)[0]?=some (List.replicate n 0)/\(List.range (vQ T n).length).map (λ(k:Nat)=>qX 10 (T:Nat) (n:Nat) (k:Int))=(vQ T n).map some:=by decide +kernel
theorem xVq {n k N:Nat} (hT:2<=T/\T<=3) (hn:1<=n/\n<=5) (hN:10<=N) (hk:k<(vQ T n).length):qX N (T:Int) (n:Int) (k:Int)=some (vQ T n)[k]:=by
 have h:=(oCx T (by simp;omega) n (by simp;omega)).2.2.2.2.2
 have h1:((List.range (vQ T n).length).map (λ(k:Nat)=>qX 10 (T:Nat) (n:Nat) (k:Int)))[k]?=some (some (vQ T n)[k]):=by
  rw[h,Bc,Aa hk]
  rfl
 rw[Bc,Ef hk] at h1;exact xBf (Option.some.inj h1) hN
def eqD (a:Nat) (d:List Int):A8:=⟨d.take a,d.getD a 0⟩
def xBr (p:Int) (ts:List (List Int)) (e:A8):Bool:=ts.all (xAk p e)
theorem xZh {a:Nat} {d:List Int} (h:d∈vQ T (a+1)):xNq (T:Int) a (eqD a d):=by
 obtain⟨h1,h2⟩:=cC.1 h;refine⟨?_,λx hx=>h2 x (Er hx),?_⟩
 ·unfold eqD;rw[Bd];omega
 ·unfold eqD
  have e:d[a]?=some (d[a]'(xG)):=Aa xG;simp only;rw[kP e];exact h2 _ (Bs _)
theorem oEy {α:Type} (l:List α) (p:α->Bool):(!l.any λx=>!p x)=l.all p:=by
 induction l with
 | nil=>rfl
 | cons a l ih=>simp only[Ea,List.all_cons,Bool.not_or,ih,Bool.not_not]
theorem xKq {ρ:Type} {N T a:Nat} {r:Rel} (hT:2<=T/\T<=3) (ha:1<=a/\a<=4) (hN:10<=N) (hr:r.arity=(a:Int)) (qa:∀ t∈r.tuples,t.length=a/\∀ x∈t,gB (T:Int) x):∀ (m k:Nat) (s:List A8),k+m=(vQ T (a+1)).length->s.length<=k->qU (σ:=List A8) (ρ:=ρ) (λk1 s1=>xH (qX N (T:Int) ((a+1:Nat):Int) (k1:Int)) λz1=>xH (sl z1 0 r.arity) λz2=>xH (ix z1 r.arity) λz3=>xH (oY r.tuples (λa0=>cH a0 (T:Int) (A8.mk z2 z3))) λz4=>if (!z4) then xH (ap s1 ([(A8.mk z2 z3)])) λz5=>some (.go z5) else some (.go s1)) m k s=some (.nx (s++(((vQ T (a+1)).drop k).map (eqD a)).filter (xBr (T:Int) r.tuples)))
 | 0,k,s,hk,_=>by rw[Cv xG];simp [qU]
 | m+1,k,s,hk,hs=>by
  have qc:k<(vQ T (a+1)).length:=xG;have h1:=(oCx T (by simp;omega) (a+1) (by simp;omega)).2.2.2.1;have hm:=Bs qc;obtain⟨d1,d2⟩:=cC.1 hm
  have qd:ix (vQ T (a+1))[k] (a:Int)=some ((vQ T (a+1))[k].getD a 0):=by
   have e:(vQ T (a+1))[k][a]?=some ((vQ T (a+1))[k][a]'(xG)):=Aa xG;rw[kP e];exact vD e
  have hc:oY r.tuples (λa0=>cH a0 (T:Int) (A8.mk ((vQ T (a+1))[k].take a) ((vQ T (a+1))[k].getD a 0)))=some (r.tuples.any λt=>!xAk (T:Int) (eqD a (vQ T (a+1))[k]) t):=sV r.tuples _ _ (λt ht=>by
   unfold cH
   rw[(xOd (n:=a) (e:=A8.mk ((vQ T (a+1))[k].take a) ((vQ T (a+1))[k].getD a 0)) xG xG (xZh hm) (qa t ht)).1,bnd_s]
   rfl)
  rw[Bt qc,Dg,Dz]
  have step:∀ (b:Bool),b=xBr (T:Int) r.tuples (eqD a (vQ T (a+1))[k])->(xH (qX N (T:Int) ((a+1:Nat):Int) (k:Int)) λz1=>xH (sl z1 0 r.arity) λz2=>xH (ix z1 r.arity) λz3=>xH (oY r.tuples (λa0=>cH a0 (T:Int) (A8.mk z2 z3))) λz4=>if (!z4) then xH (ap s ([(A8.mk z2 z3)])) λz5=>some (.go z5) else some (.go s))=some (Ctl.go (ρ:=ρ) (if b then s++[eqD a (vQ T (a+1))[k]] else s)):=by
   intro b hb;rw[xVq hT xG hN qc,bnd_s,hr,xBg xG,bnd_s,qd,bnd_s,hc,bnd_s,oEy]
   unfold xBr at hb
   rw[<- hb]
   cases b
   ·rfl
   ·rw[if_pos rfl,aC (by simp only[Am];omega),bnd_s]
    rfl
  by_cases h:xBr (T:Int) r.tuples (eqD a (vQ T (a+1))[k])=true
  ·rw[zQ (s':=s++[eqD a (vQ T (a+1))[k]]) (by rw[step true h.symm];rfl),xKq hT ha hN hr qa m (k+1) _ xG (by simp;omega),if_pos h]
   simp
  ·rw[zQ (s':=s) (by rw[step false (vV h)];rfl),xKq hT ha hN hr qa m (k+1) _ xG xG,if_neg h]
def eqO (p:Int) (t0 d:List Int):A8:=⟨d,sE d t0 % p⟩
theorem xYu {a:Nat} {t0 d:List Int} (hT:2<=T) (h:d∈vQ T a):xNq (T:Int) a (eqO (T:Int) t0 d):=by
 obtain⟨h1,h2⟩:=cC.1 h;exact⟨h1,h2,Fb _ xG,Ek _ xG⟩
def xYo (p:Int) (T a:Nat) (t0:List Int) (ts:List (List Int)) (i:Nat) (w:Nat->Int):Prop:=∀ j d,1<=j->j<i->(vQ T a)[j]?=some d->xBr p ts (eqO p t0 d)=true->p ∣ pT a (eqr (eqO p t0 d)) w
theorem xMd {n:Nat} {L:List A8} {w:Nat->Int}:kills p n (L++[e]) w↔kills p n L w/\p ∣ pT n (eqr e) w:=by
 constructor
 ·intro h;exact⟨λe he=>h e (by simp [he]),h e vK⟩
 ·rintro ⟨h1,h2⟩ e' he
  rcases Aj.1 he with he | he
  ·exact h1 e' he
  ·rw[Ay.1 he];exact h2
theorem xMi {n:Nat} (he:e.left.length=n) (ht:t.length=n):xAk p e t=true↔p ∣ pT n (eqr e) (ext n t):=by
 rw[oFe he ht];unfold xAk;rw[Bj]
theorem xPn {ρ:Type} {N T a:Nat} {ts:List (List Int)} {t0:List Int} (hT:2<=T/\T<=3) (ha:1<=a/\a<=4) (hN:10<=N) (h0:ts[0]?=some t0) (qe:∀ t∈ts,t.length=a/\∀ x∈t,gB (T:Int) x):∀ (m k:Nat) (L:List A8),k+1+m=(vQ T a).length->C3 (T:Int) a L->(∀ w,kills (T:Int) a L w↔xYo (T:Int) T a t0 ts (k+1) w)->∃ L',qU (σ:=Int×Int×(List A8)) (ρ:=ρ) (λk1 s=>match s with | (s1,s2,s3)=>xH (zJ N (T:Int) (a:Int) (1+(k1:Int))) λz3=>qD (σ:=Int) (qU (λk2 s4=>xH (ix z3 (k2:Int)) λz4=>xH (ix ts 0) λz5=>xH (ix z5 (k2:Int)) λz6=>xH (ck (z4*z6)) λz7=>xH (ck (s4+z7)) λz8=>some (.go z8)) (a:Int).toNat 0 0) λs5=>xH (kX s5 (T:Int)) λz9=>qD (σ:=Bool) (oM (λk3 (x1:(List Int)) s6=>qD (σ:=Bool) (if s6 then xH (iI (T:Int) (A8.mk z3 z9) x1) λz10=>some (.nx z10) else some (.nx false)) λs7=>some (.go s7)) ts 0 true) λs8=>if s8 then xH (ap s3 ([(A8.mk z3 z9)])) λz11=>xH (eW (B3.mk s1 s2 z11)) λz12=>some (.go (z12.prime,z12.unknowns,z12.list)) else some (.go (s1,s2,s3))) m k ((T:Int),(a:Int),L)=some (.nx ((T:Int),(a:Int),L'))/\C3 (T:Int) a L'/\∀ w,kills (T:Int) a L' w↔xYo (T:Int) T a t0 ts (vQ T a).length w
 | 0,k,L,hk,hS,hK=>⟨L,rfl,hS,by rw[<- hk];exact hK⟩
 | m+1,k,L,hk,hS,hK=>by
  have qf:k+1<(vQ T a).length:=xG;have hd:(vQ T a)[k+1]?=some (vQ T a)[k+1]:=Aa qf;have hm:=Bs qf;generalize (vQ T a)[k+1]=d at hd hm;obtain⟨d1,d2⟩:=cC.1 hm
  have qa:zJ N (T:Int) (a:Int) (1+(k:Int))=some d:=by
   rw[xOa,show(1+(k:Int))=((k+1:Nat):Int) by omega,xVq hT xG hN qf];rw[Aa qf] at hd;rw[Option.some.inj hd]
  have t0m:=Af h0;obtain⟨t1,t2⟩:=qe t0 t0m;have b1:=xQe (p:=(T:Int)) xG d2;have b2:=xQe (p:=(T:Int)) xG t2
  have qc:qU (σ:=Int) (ρ:=(Ctl (Int×Int×(List A8)) ρ)) (λk2 s4=>xH (ix d (k2:Int)) λz4=>xH (ix ts 0) λz5=>xH (ix z5 (k2:Int)) λz6=>xH (ck (z4*z6)) λz7=>xH (ck (s4+z7)) λz8=>some (.go z8)) (a:Int).toNat 0 0=some (.nx (sE d t0)):=by
   rw[Ad,<- d1,nH (g:=λ(k:Nat) (x:Int) (s:Int)=>xH (ix t0 (k:Int)) λz=>xH (ck (x*z)) λz1=>xH (ck (s+z1)) λz2=>some (.go z2)) d 0 0 0 (λj x s hj=>by
    rw[Bn,vD hj,bnd_s,show ix ts 0=some t0 from vD (i:=0) h0,bnd_s]),xEx t0 d t0 0 0 rfl xG b1 b2 xG xG,Int.zero_add]
  have hdl:=xPs d t0 b1 b2;have qg:=xYu (t0:=t0) hT.1 hm
  have qd:∀ (l:List (List Int)) (i:Nat) (b:Bool),(∀ t∈l,t∈ts)->oM (σ:=Bool) (ρ:=(Ctl (Int×Int×(List A8)) ρ)) (λk3 (x1:(List Int)) s6=>qD (σ:=Bool) (if s6 then xH (iI (T:Int) (A8.mk d (sE d t0 % (T:Int))) x1) λz10=>some (.nx z10) else some (.nx false)) λs7=>some (.go s7)) l i b=some (.nx (b && l.all (xAk (T:Int) (eqO (T:Int) t0 d)))):=by
   intro l
   induction l with
   | nil=>intro i b _;simp [oM]
   | cons t l ih=>
    intro i b hl;have hh:=(xOd (e:=eqO (T:Int) t0 d) xG xG qg (qe t (hl t (Bg ..)))).2
    unfold eqO at hh
    rw[vS (s':=b && xAk (T:Int) (eqO (T:Int) t0 d) t) (by
     cases b
     ·rfl
     ·simp only[if_true,hh,bnd_s,thn_nx,Dh]
      rfl),ih (i+1) _ (λt ht=>hl t (At _ ht)),List.all_cons,Bool.and_assoc]
  have hL:=hS.len
  have up:∀ w,xYo (T:Int) T a t0 ts (k+1+1) w↔xYo (T:Int) T a t0 ts (k+1) w/\(xBr (T:Int) ts (eqO (T:Int) t0 d)=true->(T:Int) ∣ pT a (eqr (eqO (T:Int) t0 d)) w):=by
   intro w
   constructor
   ·intro h
    exact⟨λj e h1 h2=>h j e h1 xG,λhg=>h (k+1) d xG xG hd hg⟩
   ·rintro ⟨h1,h2⟩ j e j1 j2 je jg
    by_cases ej:j=k+1
    ·subst ej
     rw[hd] at je
     cases je
     exact h2 jg
    ·exact h1 j e j1 xG je jg
  by_cases hg:xBr (T:Int) ts (eqO (T:Int) t0 d)=true
  ·have ext0:∀ e,xNq (T:Int) a e->xBr (T:Int) ts e=true->(T:Int) ∣ pT a (eqr e) (ext a t0):=λe he hg=>by
    unfold xBr at hg
    rw[Cm] at hg;exact(xMi he.1 t1).1 (hg t0 t0m)
   have k0:kills (T:Int) a (L++[eqO (T:Int) t0 d]) (ext a t0):=xMd.2 ⟨(hK _).2 λj e _ _ je jg=>ext0 _ (xYu hT.1 (Af je)) jg,ext0 _ qg hg⟩
   obtain⟨L',l1,l2,l3,l4⟩:=xIe (s:=⟨(T:Int),(a:Int),L++[eqO (T:Int) t0 d]⟩) (p:=(T:Int)) (n:=a) (m:=L.length+1) ⟨rfl,xG,rfl,xG,vK,xG,λe he=>by
    rcases Aj.1 he with he | he
    ·exact hS.ok e he
    ·rw[Ay.1 he];exact qg⟩ (w:=ext a t0) (by unfold ext;rw[if_neg xG]) k0
   obtain⟨L2,q1,q2,q3⟩:=xPn (ρ:=ρ) hT ha hN h0 qe m (k+1) L' xG l3 (λw=>by
    rw[l4 w,xMd,hK w,up w]
    exact⟨λh=>⟨h.1,λ_=>h.2⟩,λh=>⟨h.1,h.2 hg⟩⟩)
   refine⟨L2,?_,q2,q3⟩
   rw[zQ (s':=((T:Int),(a:Int),L')) (by
    simp only;rw[qa,bnd_s,qc,thn_nx,xTc xG xG,bnd_s,qd ts 0 true (λ_ h=>h),thn_nx]
    unfold xBr at hg
    rw[hg,Bool.and_true,if_pos rfl,aC (by simp only[Am];omega),bnd_s]
    rw[show A8.mk d (sE d t0 % (T:Int))=eqO (T:Int) t0 d from rfl,l2,bnd_s])]
   exact q1
  ·obtain⟨L2,q1,q2,q3⟩:=xPn (ρ:=ρ) hT ha hN h0 qe m (k+1) L xG hS (λw=>by
    rw[hK w,up w]
    exact⟨λh=>⟨h,λg=>absurd g hg⟩,λh=>h.1⟩)
   refine⟨L2,?_,q2,q3⟩
   rw[zQ (s':=((T:Int),(a:Int),L)) (by
    simp only;rw[qa,bnd_s,qc,thn_nx,xTc xG xG,bnd_s,qd ts 0 true (λ_ h=>h),thn_nx]
    unfold xBr at hg
    have qh:ts.all (xAk (T:Int) (eqO (T:Int) t0 d))=false:=vV hg
    rw[qh,Bool.and_false,if_neg vK])]
   exact q1
theorem oIj {N a:Nat} {r:Rel} (hT:2<=T/\T<=3) (ha:1<=a/\a<=4) (hN:10<=N) (hr:r.arity=(a:Int)) (h1:0<r.tuples.length) (qd:∀ t∈r.tuples,t.length=a/\∀ x∈t,gB (T:Int) x):∃ L,cG N (T:Int) r=some ⟨(T:Int),(a:Int),L⟩/\pY N (T:Int) r.arity r.tuples=some ⟨(T:Int),(a:Int),L⟩/\C3 (T:Int) a L:=by
 obtain⟨t0,h0⟩:∃ t0,r.tuples[0]?=some t0:=⟨_,Aa h1⟩;have t0m:=Af h0;obtain⟨t1,t2⟩:=qd t0 t0m;have e5:=oCx T (by simp;omega) (a+1) (by simp;omega);have ea:=oCx T (by simp;omega) a (by simp;omega);have hE:=xKq (ρ:=B3) hT ha hN hr qd (vQ T (a+1)).length 0 [] xG vK;rw[Ex,Bp] at hE
 have qa:∀ e∈((vQ T (a+1)).map (eqD a)).filter (xBr (T:Int) r.tuples),xNq (T:Int) a e/\xBr (T:Int) r.tuples e=true:=λe he=>by
  obtain⟨e1,e2⟩:=Df.1 he;obtain⟨d,d1,rfl⟩:=Cy.1 e1;exact⟨xZh d1,e2⟩
 have qe:(((vQ T (a+1)).map (eqD a)).filter (xBr (T:Int) r.tuples)).length<=243:=by
  refine Cb (Ez ..) ?_;rw[Bw];exact e5.2.2.2.1
 generalize qi:((vQ T (a+1)).map (eqD a)).filter (xBr (T:Int) r.tuples)=E at hE qa qe
 have k0:kills (T:Int) a E (ext a t0):=λe he=>by
  obtain⟨o1,o2⟩:=qa e he
  unfold xBr at o2
  rw[Cm] at o2;exact(xMi o1.1 t1).1 (o2 t0 t0m)
 obtain⟨L,l1,l2,l3,l4⟩:=xIe (s:=⟨(T:Int),(a:Int),E⟩) (p:=(T:Int)) (n:=a) (m:=E.length) ⟨rfl,xG,rfl,xG,rfl,xG,λe he=>(qa e he).1⟩ (w:=ext a t0) (by unfold ext;rw[if_neg xG]) k0;obtain⟨L',q1,q2,q3⟩:=xPn (ρ:=B3) hT ha hN h0 qd ((vQ T a).length - 1) 0 [] xG (xXd _ _) (λw=>⟨λ_ j d j1 j2=>xG,λ_ e he=>by simp at he⟩)
 have qj:∀ w,kills (T:Int) a E w↔xYo (T:Int) T a t0 r.tuples (vQ T a).length w:=by
  intro w
  constructor
  ·intro h j d j1 j2 jd jg
   refine h _ ?_;rw[<- qi];refine Df.2 ⟨Cy.2 ⟨d++[sE d t0 % (T:Int)],?_,?_⟩,jg⟩
   ·obtain⟨d1,d2⟩:=cC.1 (Af jd)
    refine cC.2 ⟨by simp [d1],λx hx=>?_⟩
    rcases Aj.1 hx with hx | hx
    ·exact d2 x hx
    ·rw[Ay.1 hx]
     exact⟨Fb _ xG,Ek _ xG⟩
   ·have d1:=(cC.1 (Af jd)).1
    unfold eqD eqO
    rw[Cx xG,Cn xG]
    congr 1
    exact kP (by rw[Bb xG,d1,Em];rfl)
  ·intro h e he
   obtain⟨o1,o2⟩:=qa e he;have hl:e.left∈vQ T a:=cC.2 ⟨o1.1,o1.2.1⟩
   have qf:e=eqO (T:Int) t0 e.left:=by
    have o3:=o2
    unfold xBr at o3
    rw[Cm] at o3;have:=o3 t0 t0m
    unfold xAk at this
    rw[Bj] at this;have hb:=o1.2.2
    unfold gB at hb
    cases e with
    | mk left right=>
     unfold eqO
     simp only at this hb ⊢
     congr 1
     have qk:T=2∨T=3:=xG
     rcases qk with rfl | rfl<;>omega
   obtain⟨j,hj,ql⟩:=Bx hl
   have qg:(vQ T a)[j]?=some e.left:=by rw[Aa hj,ql]
   by_cases j0:j=0
   ·subst j0
    rw[ea.2.2.2.2.1] at qg;have hz:e.left=List.replicate a 0:=(Option.some.inj qg).symm
    have qm:∀ (n:Nat) (m:List Int),sE (List.replicate n 0) m=0:=by
     intro n
     induction n with
     | zero=>intro m;rfl
     | succ n ih=>intro m;cases m with
      | nil=>rfl
      | cons b m=>rw[Dk,sE,ih];omega
    have qn:e.right=0:=by
     rw[qf];unfold eqO;simp only;rw[hz,qm];simp
    have:pT a (eqr e) w=0:=by
     unfold pT
     refine xCu λc hc=>?_
     unfold mV eqr
     by_cases qh:c<a
     ·rw[if_pos qh]
      simp only;rw[hz,show(List.replicate a (0:Int)).getD c 0=0 from kP (by rw[Dm,if_pos qh]),Int.zero_mul]
     ·rw[if_neg qh]
      simp only;rw[qn,Int.zero_mul]
    rw[this];exact Int.dvd_zero _
   ·have:=h j e.left xG hj qg (by rw[<- qf];exact o2)
    rw[<- qf] at this;exact this
 have qc:L=L':=l3.uniq xG q2 (λw=>by rw[l4 w,q3 w];exact qj w);subst qc;refine⟨L,?_,?_,l3⟩
 ·unfold cG
  rw[hr,zO xG xG,bnd_s,show((a:Int)+1)=((a+1:Nat):Int) by omega,e5.1,bnd_s,Ad];rw[hr] at hE;rw[hE,thn_nx,l1,bnd_s]
 ·unfold pY
  rw[hr,(show qQ N (T:Int) (a:Int)=some ((vQ T a).length:Int) from xDt ea.2.1 hN),bnd_s,show(((vQ T a).length:Int) - 1).toNat=(vQ T a).length - 1 by omega,q1,thn_nx]
end
section
variable {t:A6}
def xPp (p:Int):List Int->List Int->List Int->List Int | v::sc,a::l,s=>xPp p sc l (s.set v.toNat ((s.getD v.toNat 0+a).tmod p)) | _,_,s=>s
theorem own_step {p:Int} {n:Nat} {v a:Int} {s:List Int} (hp:2<=p/\p<=3) (hv:0<=v/\v<(n:Int)) (ha:gB p a) (hs:s.length=n) (hb:∀ x∈s,gB p x):ix s v=some (s.getD v.toNat 0)/\ck (s.getD v.toNat 0+a)=some (s.getD v.toNat 0+a)/\rm (s.getD v.toNat 0+a) p=some ((s.getD v.toNat 0+a).tmod p)/\(s.set v.toNat ((s.getD v.toNat 0+a).tmod p)).length=n/\∀ x∈s.set v.toNat ((s.getD v.toNat 0+a).tmod p),gB p x:=by
 have qa:v.toNat<s.length:=xG;have hg:s[v.toNat]?=some (s[v.toNat]'qa):=Aa qa;have he:s.getD v.toNat 0=s[v.toNat]'qa:=kP hg;have hx:=hb _ (Bs qa);rw[<- he] at hx
 unfold gB at hx ha
 refine⟨iU hv.1 (by rw[he];exact hg),zO xG xG,?_,by simp [hs],λx qc=>?_⟩
 ·unfold rm;rw[if_neg xG]
 ·rcases Dd qc with h | rfl
  ·exact hb x h
  ·rw[Cp xG]
   exact⟨Fb _ xG,Ek _ xG⟩
theorem own_impl {ρ:Type} {p:Int} {n:Nat} (e:List Int) (hp:2<=p/\p<=3):∀ (sc l:List Int) (k:Nat) (s:List Int),e.drop k=l->l.length=sc.length->(∀ v∈sc,0<=v/\v<(n:Int))->(∀ a∈l,gB p a)->s.length=n->(∀ x∈s,gB p x)->oM (σ:=List Int) (ρ:=ρ) (λk1 (x1:Int) (s1:(List Int)) =>xH (ix s1 x1) λz1=>xH (ix e (k1:Int)) λz2=>xH (ck (z1+z2)) λz3=>xH (rm z3 p) λz4=>some (.go (s1.set (x1).toNat z4))) sc k s=some (.nx (xPp p sc l s))/\(xPp p sc l s).length=n/\∀ x∈xPp p sc l s,gB p x
 | [],l,k,s,_,_,_,_,hs,hb=>by
  cases l<;>exact⟨rfl,hs,hb⟩
 | v::sc,[],k,s,_,h,_,_,_,_=>by simp at h
 | v::sc,a::l,k,s,hd,h,hv,ha,hs,hb=>by
  have hx:e[k]?=some a:=by rw[<- Ev,hd];rfl
  have qc:e.drop (k+1)=l:=by rw[<- Es,hd];rfl
  obtain⟨o1,o2,o3,o4,o5⟩:=own_step hp (hv v (Bg ..)) (ha a (Bg ..)) hs hb;rw[vS (s':=s.set v.toNat ((s.getD v.toNat 0+a).tmod p)) (by rw[o1,bnd_s,vD hx,bnd_s,o2,bnd_s,o3,bnd_s])];exact own_impl e hp sc l (k+1) _ qc (vV h) (λv qa=>hv v (At _ qa)) (λv qa=>ha v (At _ qa)) o4 o5
theorem own_spec {ρ:Type} {p:Int} {n:Nat} (sc0:List Int) (hp:2<=p/\p<=3):∀ (l sc:List Int) (k:Nat) (s:List Int),sc0.drop k=sc->l.length=sc.length->(∀ v∈sc,0<=v/\v<(n:Int))->(∀ a∈l,gB p a)->s.length=n->(∀ x∈s,gB p x)->oM (σ:=List Int) (ρ:=ρ) (λk1 (x1:Int) (s1:(List Int)) =>xH (ix sc0 (k1:Int)) λz1=>xH (ix s1 z1) λz2=>xH (ck (z2+x1)) λz3=>xH (rm z3 p) λz4=>some (.go (s1.set (z1).toNat z4))) l k s=some (.nx (xPp p sc l s))
 | [],sc,k,s,_,h,_,_,_,_=>by
  have:sc=[]:=Cc.1 h.symm;subst this
  rfl
 | a::l,[],k,s,_,h,_,_,_,_=>by simp at h
 | a::l,v::sc,k,s,hd,h,hv,ha,hs,hb=>by
  have hx:sc0[k]?=some v:=by rw[<- Ev,hd];rfl
  have qc:sc0.drop (k+1)=sc:=by rw[<- Es,hd];rfl
  obtain⟨o1,o2,o3,o4,o5⟩:=own_step hp (hv v (Bg ..)) (ha a (Bg ..)) hs hb;rw[vS (s':=s.set v.toNat ((s.getD v.toNat 0+a).tmod p)) (by rw[vD hx,bnd_s,o1,bnd_s,o2,bnd_s,o3,bnd_s])];exact own_spec sc0 hp l sc (k+1) _ qc (vV h) (λv qa=>hv v (At _ qa)) (λv qa=>ha v (At _ qa)) o4 o5
def uP (t:A6) (c:Con):Rel:=(ix t.rels c.rel).getD ⟨0,[]⟩
def eqC (p:Int) (n:Nat) (c:Con) (e:A8):A8:=⟨xPp p c.scope e.left (List.replicate n 0),e.right⟩
def xJe (N:Nat) (t:A6) (n:Nat) (c:Con):List A8:=((cG N t.size (uP t c)).getD ⟨0,0,[]⟩).list.map (eqC t.size n c)
theorem xLu {p:Int} {n:Nat} (hp:2<=p):∀ x∈List.replicate n (0:Int),gB p x:=λx hx=>by rw[Cg hx];exact⟨xG,xG⟩
theorem xPq {ρ:Type} {N T n:Nat} {c:Con} (hT:2<=T/\T<=3) (hu:TV T t) (hN:10<=N) (hn:n<=400) (hc:CV t (n:Int) c) (ha:yH N T (uP t c)=true) :
 ∃ S,cG N t.size (uP t c)=some S/\pY N t.size (uP t c).arity (uP t c).tuples=some S/\S.list.map (eqC t.size n c)=xJe N t n c/\(xJe N t n c).length<=4/\(∀ e∈xJe N t n c,xNq (T:Int) n e) ∧
 ∀ s:List A8,s.length<=1000->
  oM (σ:=List A8) (ρ:=ρ) (λk1 (x1:A8) s1=>xH (nJ (0:Int) (n:Int)) λz1=>qD (σ:=List Int) (oM (λk2 (x2:Int) s2=>xH (ix s2 x2) λz2=>xH (ix x1.left (k2:Int)) λz3=>xH (ck (z2+z3)) λz4=>xH (rm z4 t.size) λz5=>some (.go (s2.set (x2).toNat z5))) c.scope 0 z1) λs3=>xH (ap s1 ([(A8.mk s3 x1.right)])) λz6=>some (.go z6)) S.list 0 s=some (.nx (s++xJe N t n c)) ∧
  oM (σ:=List A8) (ρ:=ρ) (λk3 (x3:A8) s4=>xH (nJ (0:Int) (n:Int)) λz7=>qD (σ:=List Int) (oM (λk4 (x4:Int) s5=>xH (ix c.scope (k4:Int)) λz8=>xH (ix s5 z8) λz9=>xH (ck (z9+x4)) λz10=>xH (rm z10 t.size) λz11=>some (.go (s5.set (z8).toNat z11))) x3.left 0 z7) λs6=>xH (ap s4 ([(A8.mk s6 x3.right)])) λz12=>some (.go z12)) S.list 0 s=some (.nx (s++xJe N t n c)):=by
 obtain⟨hv,r,r0,r1,r2,r3⟩:=hc
 have qa:uP t c=r:=by unfold uP;rw[iU r0 r1];rfl
 rw[qa] at ha ⊢;obtain⟨a,q1,q2,q3,q4,q5⟩:=hu.r r r2;have hp:2<=(T:Int)/\(T:Int)<=3:=xG
 have qc:0<r.tuples.length:=by
  unfold yH at ha
  rw[Be,Bj] at ha
  omega
 obtain⟨L,l1,l2,l3⟩:=oIj (N:=N) hT ⟨q2,q3⟩ hN q1 qc (λx hx=>cC.1 (q5 x hx));have qd:=hu.s;have qe:c.scope.length=a:=xG
 have he:xJe N t n c=L.map (eqC t.size n c):=by unfold xJe;rw[qa,qd,l1];rfl
 have hL:=l3.len;rw[qd] at he ⊢
 have ok1:∀ e∈L,oM (σ:=List Int) (ρ:=(Ctl ((List A8)) ρ)) (λk2 (x2:Int) s2 =>xH (ix s2 x2) λz2=>xH (ix e.left (k2:Int)) λz3=>xH (ck (z2+z3)) λz4=>xH (rm z4 (T:Int)) λz5=>some (.go (s2.set (x2).toNat z5))) c.scope 0 (List.replicate n 0)=some (.nx (xPp (T:Int) c.scope e.left (List.replicate n 0)))/\(xPp (T:Int) c.scope e.left (List.replicate n 0)).length=n/\∀ x∈xPp (T:Int) c.scope e.left (List.replicate n 0),gB (T:Int) x:=λe he=>
  own_impl e.left hp c.scope e.left 0 (List.replicate n 0) rfl (by rw[(l3.ok e he).1,qe]) hv (l3.ok e he).2.1 vK (xLu hp.1)
 refine⟨_,l1,l2,he.symm,by rw[he,Bw];omega,λe qf=>?_,λs hs=>⟨?_,?_⟩⟩
 ·rw[he] at qf
  obtain⟨e0,m1,rfl⟩:=Cy.1 qf;obtain⟨_,o2,o3⟩:=ok1 e0 m1;exact⟨o2,o3,(l3.ok e0 m1).2.2⟩
 ·have key:∀ (l:List A8) (k:Nat) (s:List A8),(∀ e∈l,e∈L)->s.length+l.length<=2000->oM (σ:=List A8) (ρ:=ρ) (λk1 (x1:A8) s1=>xH (nJ (0:Int) (n:Int)) λz1=>qD (σ:=List Int) (oM (λk2 (x2:Int) s2=>xH (ix s2 x2) λz2=>xH (ix x1.left (k2:Int)) λz3=>xH (ck (z2+z3)) λz4=>xH (rm z4 (T:Int)) λz5=>some (.go (s2.set (x2).toNat z5))) c.scope 0 z1) λs3=>xH (ap s1 ([(A8.mk s3 x1.right)])) λz6=>some (.go z6)) l k s=some (.nx (s++l.map (eqC (T:Int) n c))):=by
   intro l
   induction l with
   | nil=>intro k s _ _;simp [oM]
   | cons e l ih=>
    intro k s hl hs;rw[Ao] at hs
    rw[vS (s':=s++[eqC (T:Int) n c e]) (by
     rw[xYy hn,bnd_s,(ok1 e (hl e (Bg ..))).1,thn_nx,aC (by simp only[Am];omega),bnd_s]
     rfl),ih (k+1) _ (λe he=>hl e (At _ he)) (by simp;omega)]
    simp
  rw[he];exact key L 0 s (λ_ h=>h) xG
 ·have key:∀ (l:List A8) (k:Nat) (s:List A8),(∀ e∈l,e∈L)->s.length+l.length<=2000->oM (σ:=List A8) (ρ:=ρ) (λk3 (x3:A8) s4 =>xH (nJ (0:Int) (n:Int)) λz7=>qD (σ:=List Int) (oM (λk4 (x4:Int) s5=>xH (ix c.scope (k4:Int)) λz8=>xH (ix s5 z8) λz9=>xH (ck (z9+x4)) λz10=>xH (rm z10 (T:Int)) λz11=>some (.go (s5.set (z8).toNat z11))) x3.left 0 z7) λs6=>xH (ap s4 ([(A8.mk s6 x3.right)])) λz12=>some (.go z12)) l k s=some (.nx (s++l.map (eqC (T:Int) n c))):=by
   intro l
   induction l with
   | nil=>intro k s _ _;simp [oM]
   | cons e l ih=>
    intro k s hl hs;rw[Ao] at hs;have eo:=l3.ok e (hl e (Bg ..))
    rw[vS (s':=s++[eqC (T:Int) n c e]) (by
     rw[xYy hn,bnd_s,own_spec c.scope hp e.left c.scope 0 (List.replicate n 0) rfl (by rw[eo.1,qe]) hv eo.2.1 vK (xLu hp.1),thn_nx,aC (by simp only[Am];omega),bnd_s]
     rfl),ih (k+1) _ (λe he=>hl e (At _ he)) (by simp;omega)]
    simp
  rw[he];exact key L 0 s (λ_ h=>h) xG
theorem xPo {N T:Nat} {x:A7} (hu:TV T t) (hv:1<=x.vars/\x.vars<=10) (hl:x.cons.length<=24) (hC:∀ c∈x.cons,CV t x.vars c) (hN:10<=N):∃ r,mH N t x=some r/\lB N t x=some r/\(r.2=0->∃ n m,SysOk (T:Int) n m r.1/\(1<=n/\n<=10)/\m<=24):=by
 have qh:=hu.s;have hT4:=hu.t
 by_cases hp:(t.size==2 || t.size==3)=true
 ·have hT:2<=T/\T<=3:=by
   rw[Bool.or_eq_true,De,De] at hp
   omega
  obtain⟨n,hn⟩:∃ n:Nat,x.vars=(n:Int):=⟨x.vars.toNat,xG⟩
  have qg:∀ c∈x.cons,CV t (n:Int) c:=λc hc=>by rw[<- hn];exact hC c hc
  have qc:∀ c∈x.cons,ix t.rels c.rel=some (uP t c)/\uP t c∈t.rels:=λc hc=>by
   obtain⟨_,r,r0,r1,r2,_⟩:=hC c hc
   have:uP t c=r:=by unfold uP;rw[iU r0 r1];rfl
   rw[this];exact⟨iU r0 r1,r2⟩
  have qa:∀ c∈x.cons,fQ N t.size (uP t c)=some (yH N T (uP t c))/\gM N t.size (uP t c)=some (yH N T (uP t c)):=λc hc=>by
   rw[qh];exact xMo hu (qc c hc).2 hN
  have qj:zB x.cons (λa0=>mM N a0 (A6.mk t.size t.rels))=some (x.cons.any λc=>!yH N T (uP t c)):=yM x.cons _ _ (λc hc=>by
   unfold mM
   simp only[(qc c hc).1,bnd_s,show ∀ r:Rel,Rel.mk r.arity r.tuples=r from λ_=>rfl,(qa c hc).1])
  have qd:∀ (l:List Con) (k:Nat) (s:List A8),(∀ c∈l,c∈x.cons)->s.length+4*l.length<=500->oM (σ:=List A8) (ρ:=B3×Int) (λk1 (x1:Con) s7=>xH (ix t.rels x1.rel) λz1=>xH (gM N t.size z1) λz2=>if (!z2) then some (.ret ((B3.mk 0 0 ([])),4)) else xH (pY N t.size z1.arity z1.tuples) λz3=>qD (σ:=List A8) (oM (λk2 (x2:A8) s8=>xH (nJ (0:Int) x.vars) λz4=>qD (σ:=List Int) (oM (λk3 (x3:Int) s9=>xH (ix x1.scope (k3:Int)) λz5=>xH (ix s9 z5) λz6=>xH (ck (z6+x3)) λz7=>xH (rm z7 t.size) λz8=>some (.go (s9.set (z5).toNat z8))) x2.left 0 z4) λs10=>xH (ap s8 ([(A8.mk s10 x2.right)])) λz9=>some (.go z9)) z3.list 0 s7) λs11=>some (.go s11)) l k s=if l.any (λc=>!yH N T (uP t c)) then some (.ret ((B3.mk 0 0 ([])),4)) else some (.nx (s++l.flatMap (xJe N t n))):=by
   intro l
   induction l with
   | nil=>intro k s _ _;simp [oM]
   | cons c l ih=>
    intro k s hl hs;rw[Ao] at hs;have hc:=hl c (Bg ..)
    by_cases ha:yH N T (uP t c)=true
    ·obtain⟨S,s1,s2,s3,s4,s5,s6⟩:=xPq (ρ:=Ctl ((List A8)) (B3×Int)) hT hu hN xG (qg c hc) ha
     rw[vS (s':=s++xJe N t n c) (by
      simp only[(qc c hc).1,bnd_s,(qa c hc).2,ha,Br,Ah,if_false,s2,hn]
      rw[(s6 s xG).2,thn_nx]),ih (k+1) _ (λc hc=>hl c (At _ hc)) (by rw[Ar];omega)]
     simp [ha]
    ·have qi:yH N T (uP t c)=false:=vV ha
     rw[fE (r:=(B3.mk 0 0 [],4)) (by
      simp only[(qc c hc).1,bnd_s,(qa c hc).2,qi,Co,if_true])]
     simp [qi]
  have qe:∀ (l:List Con) (k:Nat) (s:List A8),(∀ c∈l,c∈x.cons)->(∀ c∈l,yH N T (uP t c)=true)->s.length+4*l.length<=500->oM (σ:=List A8) (ρ:=B3×Int) (λk4 (x4:Con) s12=>xH (ix t.rels x4.rel) λz10=>xH (cG N t.size z10) λz11=>qD (σ:=List A8) (oM (λk5 (x5:A8) s13=>xH (nJ (0:Int) x.vars) λz12=>qD (σ:=List Int) (oM (λk6 (x6:Int) s14=>xH (ix s14 x6) λz13=>xH (ix x5.left (k6:Int)) λz14=>xH (ck (z13+z14)) λz15=>xH (rm z15 t.size) λz16=>some (.go (s14.set (x6).toNat z16))) x4.scope 0 z12) λs15=>xH (ap s13 ([(A8.mk s15 x5.right)])) λz17=>some (.go z17)) z11.list 0 s12) λs16=>some (.go s16)) l k s=some (.nx (s++l.flatMap (xJe N t n))):=by
   intro l
   induction l with
   | nil=>intro k s _ _ _;simp [oM]
   | cons c l ih=>
    intro k s hl ha hs;rw[Ao] at hs;have hc:=hl c (Bg ..);obtain⟨S,s1,s2,s3,s4,s5,s6⟩:=xPq (ρ:=Ctl ((List A8)) (B3×Int)) hT hu hN xG (qg c hc) (ha c (Bg ..))
    rw[vS (s':=s++xJe N t n c) (by
     simp only[(qc c hc).1,bnd_s,s1,hn]
     rw[(s6 s xG).1,thn_nx]),ih (k+1) _ (λc hc=>hl c (At _ hc)) (λc hc=>ha c (At _ hc)) (by rw[Ar];omega)]
    simp
  unfold mH lB
  rw[(nD t.size).1,(nD t.size).2,hp,qj];simp only[bnd_s,Br,Ah,if_false,thn_nx];rw[qd x.cons 0 [] (λ_ h=>h) (by simp;omega)]
  by_cases ha:(x.cons.any λc=>!yH N T (uP t c))=true
  ·rw[if_pos ha,if_pos ha,thn_ret]
   exact⟨_,rfl,rfl,λh=>by simp at h⟩
  ·have qf:∀ c∈x.cons,yH N T (uP t c)=true:=λc hc=>by
    refine Classical.byContradiction λh=>ha (List.any_eq_true.2 ⟨c,hc,vV h⟩)
   rw[if_neg ha,if_neg ha,qe x.cons 0 [] (λ_ h=>h) qf (by simp;omega),thn_nx,Bp]
   by_cases h1:(24:Int)<((x.cons.flatMap (xJe N t n)).length:Int)
   ·rw[if_pos (by rw[Bj];exact h1)]
    exact⟨_,rfl,rfl,λh=>by simp at h⟩
   ·rw[if_neg (by rw[Bj];exact h1)]
    refine⟨_,rfl,rfl,λ_=>⟨n,_,⟨qh,xG,hn,xG,rfl,by simp only;omega,λe he=>?_⟩,xG,by simp only;omega⟩⟩;obtain⟨c,hc,he⟩:=List.mem_flatMap.1 he;obtain⟨S,s1,s2,s3,s4,s5,s6⟩:=xPq (ρ:=Unit) hT hu hN xG (qg c hc) (qf c hc);exact s5 e he
 ·have qk:(t.size==2 || t.size==3)=false:=vV hp
  unfold mH lB
  rw[(nD t.size).1,(nD t.size).2,qk];exact⟨_,rfl,rfl,λh=>by simp at h⟩
theorem xIt {N T:Nat} {x:A7} (ht:lV t) (hi:sO t x=true) (hu:TV T t) (hN:10<=N):∃ r,eP N t x=some r/\eQ N t x=some r/\VB r.1:=by
 obtain⟨hv,hl,hC⟩:=xJm hi;obtain⟨i1,i2⟩:=xGc (t:=t) (x:=x) ht;obtain⟨r,s1,s2,s3⟩:=xPo (N:=N) hu hv hl hC hN
 unfold eP eQ wH
 simp only[show A6.mk t.size t.rels=t from rfl,show A7.mk x.vars x.cons=x from rfl,i1,i2,hi,s1,s2,bnd_s,Br,Ah,if_false]
 by_cases h0:r.2=0
 ·obtain⟨n,m,hs,hn,hm⟩:=s3 h0
  obtain⟨a,a1,a2,a3⟩:=xIy hs ⟨hn.1,xG⟩ hm;obtain⟨b,b1,b2,b3⟩:=xHt hs ⟨hn.1,xG⟩ hm
  have e0:(r.2 != 0)=false:=by rw[h0];rfl
  simp only[e0,Ah,if_false,show B3.mk r.1.prime r.1.unknowns r.1.list=r.1 from rfl,a1,a2,b1,b2,bnd_s]
  split
  ·exact⟨_,rfl,rfl,VB.vals a3⟩
  ·exact⟨_,rfl,rfl,Bi _,Bi _,Bi _,b3⟩
 ·have e0:(r.2 != 0)=true:=by rw[bne_iff_ne];exact h0
  simp only[e0,if_true];exact⟨_,rfl,rfl,VB.nil⟩
end
section
variable {d:List Int} {p:Nat} {T:Nat}
def hU (r:Rel) (d:List Int):List (List Int):=d.map λj=>r.tuples.getD j.toNat []
def eG (T n:Nat) (fH:List (List Int)):List Int:=(List.range' 0 n).map λp=>kD T (col fH p)
def toC (l:lookT):B4:=⟨l.rel,l.cells⟩
def wJ (D:List (List lookT)):List (List B4):=D.map (List.map toC)
def inS (T:Nat) (r:Rel):List Bool:=xLz T r.tuples (List.replicate (T ^ r.arity.toNat) false)
structure CondOk (rels:List Rel) (p:Nat) (c:lookT):Prop where
  ex:∃ (k n:Nat) (r:Rel),c.rel=(k:Int)/\rels[k]?=some r/\r∈rels/\r.arity=(n:Int)/\c.cells.length=n
  le:∀ a∈c.cells,0<=a/\a<=(p:Int)
structure DueOk (T m:Nat) (rels:List Rel) (B:Nat) (D:List (List lookT)):Prop where
  ln:D.length=T ^ m
  ok:∀ (p:Nat) l,D[p]?=some l->∀ c∈l,CondOk rels p c
  le:∀ (p:Nat) l,D[p]?=some l->l.length<=B
theorem xVa {D:List (List lookT)} {l:List lookT} (h:D[p]?=some l):(wJ D)[p]?=some (l.map toC):=by unfold wJ;rw[Bc,h];rfl
theorem oAu {D:List (List lookT)} {l:List lookT} {c:lookT}:(wJ D).set p (l.map toC++[toC c])=wJ (D.set p (l++[c])):=by
 unfold wJ
 rw[List.map_set]
 simp
theorem xUe {n:Nat} {r:Rel} (hr:∀ t∈r.tuples,bJ T t/\t.length=n) (hd:∀ a∈d,0<=a/\a<(r.tuples.length:Int)):∀ t∈hU r d,bJ T t/\t.length=n:=by
 intro t ht;obtain⟨j,hj,rfl⟩:=Cy.1 ht;have:=hd j hj;have qa:j.toNat<r.tuples.length:=xG;rw[Ap,Aa qa,Ej];exact hr _ (Bs qa)
theorem xEz {r:Rel}:col (hU r d) p=d.map λj=>(r.tuples.getD j.toNat []).getD p 0:=by
 unfold col hU
 rw[List.map_map]
 rfl
theorem xZn {n:Nat} {r:Rel} {x:Int} (hr:∀ t∈r.tuples,bJ T t/\t.length=n) (hd:∀ a∈d,0<=a/\a<(r.tuples.length:Int)) (hp:p<n) (hx:x∈d):ix r.tuples x=some (r.tuples.getD x.toNat [])/\ix (r.tuples.getD x.toNat []) (p:Int)=some ((r.tuples.getD x.toNat []).getD p 0):=by
 have:=hd x hx;have qa:x.toNat<r.tuples.length:=xG
 have e:r.tuples.getD x.toNat []=r.tuples[x.toNat]:=by rw[Ap,Aa qa,Ej]
 have hl:=(hr _ (Bs qa)).2;rw[e];refine⟨iU this.1 (Aa qa),?_⟩;have e2:(r.tuples[x.toNat])[p]?=some ((r.tuples[x.toNat])[p]'(xG)):=Aa xG;rw[kP e2];exact vD e2
theorem xWd {ρ:Type} {n m:Nat} {r:Rel} (qa:1<=T/\T<=4) (hr:∀ t∈r.tuples,bJ T t/\t.length=n) (hd:∀ a∈d,0<=a/\a<(r.tuples.length:Int)) (hp:p<n) (hm:d.length=m) (h3:m<=3):oM (σ:=Int) (ρ:=ρ) (λk1 x1 s1 =>xH (ck (s1*(T:Int))) λz1=>xH (ix r.tuples x1) λz2=>xH (ix z2 (p:Int)) λz3=>xH (ck (z1+z3)) λz4=>some (.go z4)) d 0 0=some (.nx (kD T (col (hU r d) p))):=by
 have hs:=xUe hr hd;have qc:=xCk qa hs p
 rw[uX (λj=>(r.tuples.getD j.toNat []).getD p 0) (b':=λ(k2:Nat) (x2:Int) (s2:Int)=>xH (ck (s2*(T:Int))) λz5=>xH (ck (z5+x2)) λz6=>some (.go z6)) d 0 0 (λi x s hx=>by
  obtain⟨t1,t2⟩:=xZn hr hd hp hx
  simp only[t1,t2,bnd_s]),<- xEz]
 have hl:(col (hU r d) p).length=m:=by rw[xEz,Bw,hm]
 refine wX qa _ 0 0 qc xG ?_;have:=pP (T:=T) (k:=(col (hU r d) p).length) qa xG
 omega
theorem xWm {ρ:Type} {n m:Nat} {r:Rel} (hr:∀ t∈r.tuples,bJ T t/\t.length=n) (hd:∀ a∈d,0<=a/\a<(r.tuples.length:Int)) (hp:p<n) (hm:d.length=m) (h3:m<=3):qU (σ:=List Int) (ρ:=ρ) (λk1 s1 =>xH (ix d (k1:Int)) λz1=>xH (ix r.tuples z1) λz2=>xH (ix z2 (p:Int)) λz3=>xH (ap s1 ([z3])) λz4=>some (.go z4)) (m:Int).toNat 0 []=some (.nx (col (hU r d) p)):=by
 rw[Ad,<- hm,nH (g:=λ(k:Nat) (x:Int) (s:List Int) =>xH (ix r.tuples x) λz2=>xH (ix z2 (p:Int)) λz3=>xH (ap s ([z3])) λz4=>some (.go z4)) d 0 0 [] (λj x s hj=>by rw[Bn,vD hj,bnd_s])]
 rw[lI d (λj=>(r.tuples.getD j.toNat []).getD p 0) (λi x s hx hs=>by
  obtain⟨t1,t2⟩:=xZn hr hd hp (Af hx);have:=(Ac.1 hx).1
  rw[t1,bnd_s,t2,bnd_s,aC (by simp only[Am];omega),bnd_s]) d 0 [] rfl rfl,Bp,<- xEz]
theorem xXo (a b:Int):nC a b=some (if b<a then a else b):=by
 unfold nC
 by_cases h:b<a
 ·rw[if_pos (vV h),if_pos h]
 ·rw[if_neg (vV h),if_neg h]
theorem xTg {ρ:Type} {n m:Nat} {r:Rel} (qa:1<=T/\T<=4) (hn:n<=4) (hr:∀ t∈r.tuples,bJ T t/\t.length=n) (hd:∀ a∈d,0<=a/\a<(r.tuples.length:Int)) (hm:d.length=m) (h3:m<=3):qU (σ:=List Int) (ρ:=ρ) (λk1 s1 =>qD (σ:=Int) (oM (λk2 x1 s2=>xH (ck (s2*(T:Int))) λz1=>xH (ix r.tuples x1) λz2=>xH (ix z2 (k1:Int)) λz3=>xH (ck (z1+z3)) λz4=>some (.go z4)) d 0 0) λs3=>xH (ap s1 ([s3])) λz5=>some (.go z5)) n 0 []=some (.nx (eG T n (hU r d))):=by
 rw[rU (n:=n) (λp=>kD T (col (hU r d) p)) (λi s hi hs=>by
  rw[xWd qa hr hd hi hm h3,thn_nx,aC (by simp only[Am];omega),bnd_s]) n 0 [] rfl xG]
 rfl
theorem xKy {ρ:Type} {T n m:Nat} {r:Rel} {d:List Int} (qa:1<=T/\T<=4) (hn:n<=4) (hr:∀ t∈r.tuples,bJ T t/\t.length=n) (hd:∀ a∈d,0<=a/\a<(r.tuples.length:Int)) (hm:d.length=m) (h3:m<=3):∀ (q k:Nat) (s:Int) (l:List Int),k+q=n->l.length=k->qU (σ:=Int×(List Int)) (ρ:=ρ) (λk1 s =>match s with | (s1,s2)=>qD (σ:=List Int) (qU (λk2 s3=>xH (ix d (k2:Int)) λz1=>xH (ix r.tuples z1) λz2=>xH (ix z2 (k1:Int)) λz3=>xH (ap s3 ([z3])) λz4=>some (.go z4)) (m:Int).toNat 0 []) λs4=>xH (aG (T:Int) s4) λz5=>xH (ap s2 ([z5])) λz6=>xH (nC s1 z5) λz7=>some (.go (z7,z6))) q k (s,l)=some (.nx (((List.range' k q).map λp=>kD T (col (hU r d) p)).foldl (λs x=>if x<s then s else x) s,l++(List.range' k q).map λp=>kD T (col (hU r d) p)))
 | 0,k,s,l,_,_=>by simp [qU]
 | q+1,k,s,l,hk,hl=>by
  have hs:=xUe hr hd
  have hcl:(col (hU r d) k).length=m:=by rw[xEz,Bw,hm]
  rw[zQ (s':=((if kD T (col (hU r d) k)<s then s else kD T (col (hU r d) k)),l++[kD T (col (hU r d) k)])) (by
   simp only
   rw[xWm hr hd xG hm h3,thn_nx,(sT qa (xCk qa hs k) xG).1,bnd_s,aC (by simp only[Am];omega),bnd_s,xXo,bnd_s]),xKy qa hn hr hd hm h3 q (k+1) _ _ xG (by simp [hl])]
  simp [Dw]
theorem xXt {n m:Nat} {r:Rel} (qa:1<=T/\T<=4) (hr:∀ t∈r.tuples,bJ T t/\t.length=n) (hd:∀ a∈d,0<=a/\a<(r.tuples.length:Int)) (hm:d.length=m) (h3:m<=3):(eG T n (hU r d)).length=n/\∀ a∈eG T n (hU r d),0<=a/\a<((T ^ m:Nat):Int):=by
 refine⟨by simp [eG],λa ha=>?_⟩;obtain⟨p,_,rfl⟩:=Cy.1 ha
 have qc:(col (hU r d) p).length=m:=by rw[xEz,Bw,hm]
 have:=sT qa (xCk qa (xUe hr hd) p) xG;rw[qc] at this;exact this.2
theorem xOc {ρ ρ':Type} {N T m n k:Nat} {rels:List Rel} {r:Rel} {P:Int} (qc:1<=T/\T<=4) (hm:1<=m/\m<=3) (hN:10<=N) (hk:rels[k]?=some r) (qh:r.arity=(n:Int)) (hn:1<=n/\n<=4) (hr:∀ t∈r.tuples,bJ T t/\t.length=n) (hP:P<=4000) (qi:r.tuples.length=0->P=0):∀ (q i B:Nat) (D:List (List lookT)),((i+q:Nat):Int)<=P->DueOk T m rels B D->B+q<=10000->
 ∃ D',qU (σ:=List (List lookT)) (ρ:=ρ) (λk1 s1=>xH (qX N (r.tuples.length:Int) (m:Int) (k1:Int)) λz1=>qD (σ:=List Int) (qU (λk2 s2=>qD (σ:=Int) (oM (λk3 x3 s3=>xH (ck (s3*(T:Int))) λz2=>xH (ix r.tuples x3) λz3=>xH (ix z3 (k2:Int)) λz4=>xH (ck (z2+z4)) λz5=>some (.go z5)) z1 0 0) λs4=>xH (ap s2 ([s4])) λz6=>some (.go z6)) r.arity.toNat 0 []) λs5=>xH (kI s5) λz7=>xH (ix s1 z7) λz8=>xH (ap z8 ([(lookT.mk (k:Int) s5)])) λz9=>some (.go (s1.set (z7).toNat z9))) q i D=some (.nx D') ∧
  qU (σ:=List (List B4)) (ρ:=ρ') (λk4 s6=>xH (zJ N (r.tuples.length:Int) (m:Int) (k4:Int)) λz10=>qD (σ:=Int×(List Int)) (qU (λk5 s=>match s with | (s7,s8)=>qD (σ:=List Int) (qU (λk6 s9=>xH (ix z10 (k6:Int)) λz11=>xH (ix r.tuples z11) λz12=>xH (ix z12 (k5:Int)) λz13=>xH (ap s9 ([z13])) λz14=>some (.go z14)) (m:Int).toNat 0 []) λs10=>xH (aG (T:Int) s10) λz15=>xH (ap s8 ([z15])) λz16=>xH (nC s7 z15) λz17=>some (.go (z17,z16))) r.arity.toNat 0 (0,[])) λ(s11,s12)=>xH (ix s6 s11) λz18=>xH (ap z18 ([(B4.mk (k:Int) s12)])) λz19=>some (.go (s6.set (s11).toNat z19))) q i (wJ D)=some (.nx (wJ D'))/\DueOk T m rels (B+q) D'
 | 0,i,B,D,_,hD,_=>⟨D,rfl,rfl,hD⟩
 | q+1,i,B,D,hi,hD,hB=>by
  have hlen:1<=r.tuples.length:=by
   refine Classical.byContradiction λh=>?_;have:=qi xG
   omega
  obtain⟨d,d1,d2,d3⟩:=xDu (N:=N) (T:=(r.tuples.length:Int)) (k:=(i:Int)) (m:=m) xG xG xG xG xG;obtain⟨c1,c2⟩:=xXt qc hr d3 d2 hm.2;have hpow:=pP (T:=T) (k:=m) qc xG;obtain⟨x1,x2⟩:=oKm (l:=eG T n (hU r d)) (n:=((T ^ m:Nat):Int)) c2 xG;have qg:kI (eG T n (hU r d))=some (mx (eG T n (hU r d))):=oJe (λa ha=>(c2 a ha).1) xG
  have qd:(mx (eG T n (hU r d))).toNat<D.length:=by rw[hD.ln];omega
  have qe:D[(mx (eG T n (hU r d))).toNat]?=some (D[(mx (eG T n (hU r d))).toNat]'qd):=Aa qd;generalize hw:D[(mx (eG T n (hU r d))).toNat]'qd=l at qe;have hll:=hD.le _ _ qe;have qf:r.arity.toNat=n:=xG
  have qj:DueOk T m rels (B+1) (D.set (mx (eG T n (hU r d))).toNat (l++[⟨(k:Int),eG T n (hU r d)⟩])):=by
   refine⟨by simp [hD.ln],λp l' qa=>?_,λp l' qa=>?_⟩
   ·rw[Fe] at qa
    by_cases e:(mx (eG T n (hU r d))).toNat=p
    ·rw[if_pos e,if_pos qd] at qa
     cases qa
     intro c hc
     rcases Aj.1 hc with hc | hc
     ·rw[<- e];exact hD.ok _ _ qe c hc
     ·rw[Ay.1 hc]
      refine⟨⟨k,n,r,rfl,hk,Af hk,qh,c1⟩,λa ha=>⟨(c2 a ha).1,?_⟩⟩;have:=(oGg (l:=eG T n (hU r d)) (s:=0)).2 a ha
      unfold mx at e x1
      omega
    ·rw[if_neg e] at qa
     exact hD.ok p l' qa
   ·rw[Fe] at qa
    by_cases e:(mx (eG T n (hU r d))).toNat=p
    ·rw[if_pos e,if_pos qd] at qa
     cases qa
     simp;omega
    ·rw[if_neg e] at qa
     have:=hD.le p l' qa
     omega
  obtain⟨D',q1,q2,q3⟩:=xOc (ρ:=ρ) (ρ':=ρ') (N:=N) qc hm hN hk qh hn hr hP qi q (i+1) (B+1) _ xG qj xG;refine⟨D',?_,?_,by rw[show B+(q+1)=B+1+q by omega];exact q3⟩
  ·rw[zQ (s':=D.set (mx (eG T n (hU r d))).toNat (l++[⟨(k:Int),eG T n (hU r d)⟩])) (by
    simp only[d1,bnd_s,qf]
    rw[xTg qc hn.2 hr d3 d2 hm.2,thn_nx,qg,bnd_s,iU x1 qe,bnd_s,aC (by simp only[Am];omega),bnd_s])]
   exact q1
  ·rw[zQ (s':=wJ (D.set (mx (eG T n (hU r d))).toNat (l++[⟨(k:Int),eG T n (hU r d)⟩]))) (by
    simp only[rM,d1,bnd_s,qf];rw[xKy qc hn.2 hr d3 d2 hm.2 n 0 0 [] xG rfl,thn_nx,Bp];rw[show((List.range' 0 n).map λp=>kD T (col (hU r d) p))=eG T n (hU r d) from rfl,show(eG T n (hU r d)).foldl (λs x=>if x<s then s else x) 0=mx (eG T n (hU r d)) from rfl];simp only;rw[iU x1 (xVa qe),bnd_s,aC (by simp only[Am,Bw];omega),bnd_s,<- oAu]
    rfl)]
   exact q2
end
section
def pwN (m:Nat) (r:Rel):Nat:=((vO (r.tuples.length:Int) (m:Int)).getD 0).toNat
def tP (m:Nat) (l:List Rel):Nat:=(l.map (pwN m)).sum
theorem xOw (m:Nat) (r:Rel) (l:List Rel):tP m (r::l)=pwN m r+tP m l:=by simp [tP]
theorem xYm {N m:Nat} {r:Rel} (hr:r.tuples.length<=1048576) (hm:1<=m/\m<=3) (hN:10<=N):vO (r.tuples.length:Int) (m:Int)=some (pwN m r:Int)/\qQ N (r.tuples.length:Int) (m:Int)=some (pwN m r:Int)/\(pwN m r:Int)<=1152921504606846976/\(r.tuples.length=0->(pwN m r:Int)=0):=by
 obtain⟨p,p1,p2,p3,p4,p5⟩:=xVe (T:=(r.tuples.length:Int)) (m:=m) (N:=N) xG xG hm xG
 have e:(pwN m r:Int)=p:=by unfold pwN;rw[p1];simp;omega
 rw[e];exact⟨p1,p2,p4,λh=>p5 xG⟩
theorem xOz {ρ ρ':Type} {N m:Nat} (hm:1<=m/\m<=3) (hN:10<=N):∀ (l:List Rel) (k:Nat) (a b:Int),(∀ r∈l,r.tuples.length<=1048576)->0<=a->a+4001*l.length<=100000->0<=b->b+1152921504606846976*l.length<=6917529027641081856->∃ a',oM (σ:=Int) (ρ:=ρ) (λk1 (x1:Rel) s1=>xH (vO (x1.tuples.length:Int) (m:Int)) λz1=>xH (ck (s1+(if z1<4001 then z1 else 4001))) λz2=>some (.go z2)) l k a=some (.nx a')/\oM (σ:=Int) (ρ:=ρ') (λk2 (x2:Rel) s2=>xH (qQ N (x2.tuples.length:Int) (m:Int)) λz3=>xH (ck (s2+z3)) λz4=>some (.go z4)) l k b=some (.nx (b+(tP m l:Int)))/\((a=b∨(4000<a/\4000<b))->(a'=b+(tP m l:Int)∨(4000<a'/\4000<b+(tP m l:Int))))
 | [],k,a,b,_,_,_,_,_=>⟨a,rfl,by simp [oM,tP],λh=>by simpa [tP] using h⟩
 | r::l,k,a,b,hl,ha,ha',hb,hb'=>by
  obtain⟨p1,p2,p3,p4⟩:=xYm (N:=N) (hl r (Bg ..)) hm hN;rw[Ao] at ha' hb'
  have hmin:0<=(if (pwN m r:Int)<4001 then (pwN m r:Int) else 4001)/\(if (pwN m r:Int)<4001 then (pwN m r:Int) else 4001)<=4001:=by split<;>omega
  obtain⟨a',q1,q2,q3⟩:=xOz (ρ:=ρ) (ρ':=ρ') hm hN l (k+1) (a+(if (pwN m r:Int)<4001 then (pwN m r:Int) else 4001)) (b+(pwN m r:Int)) (λr hr=>hl r (At _ hr)) xG xG xG xG;refine⟨a',?_,?_,λh=>?_⟩
  ·rw[vS (s':=a+(if (pwN m r:Int)<4001 then (pwN m r:Int) else 4001)) (by rw[p1,bnd_s,zO xG xG,bnd_s])]
   exact q1
  ·rw[vS (s':=b+(pwN m r:Int)) (by rw[p2,bnd_s,zO xG xG,bnd_s]),q2,xOw]
   congr 2
   omega
  ·rw[xOw]
   have:=q3 (by
    by_cases hc:(pwN m r:Int)<4001
    ·rw[if_pos hc];omega
    ·rw[if_neg hc];omega)
   omega
theorem oGf {ρ:Type}:∀ (q k:Nat),qU (σ:=(List Int)×(List Int)) (ρ:=ρ) (λk1 s =>match s with | (s1,s2)=>xH (ix s1 (k1:Int)) λz1=>xH (ix s2 (k1:Int)) λz2=>some (.go ((s1.set ((k1:Int)).toNat (-1)),(s2.set ((k1:Int)).toNat (-1))))) q k (List.replicate k (-1)++List.replicate q 0,List.replicate k (-1)++List.replicate q 0)=some (.nx (List.replicate (k+q) (-1),List.replicate (k+q) (-1)))
 | 0,k=>by simp [qU]
 | q+1,k=>by
  have h1:(List.replicate k (-1:Int)++List.replicate (q+1) 0)[k]?=some 0:=by
   rw[Bb vK];simp
  have h2:(List.replicate k (-1:Int)++List.replicate (q+1) 0).set k (-1)=List.replicate (k+1) (-1)++List.replicate q 0:=by
   rw[Ey _ _ vK,List.replicate_succ' (n:=k)]
   simp [Dk]
  rw[zQ (s':=(List.replicate (k+1) (-1)++List.replicate q 0,List.replicate (k+1) (-1)++List.replicate q 0)) (by
   simp only[vD h1,bnd_s,Ad,h2]),oGf q (k+1),show k+1+q=k+(q+1) by omega]
def xBw (T:Nat) (r:Rel):B7:=⟨(T:Int),r.arity,inS T r⟩
theorem xWs {N T n:Nat} {r:Rel} (qa:1<=T/\T<=4) (hN:10<=N) (qc:r.arity=(n:Int)) (hn:1<=n/\n<=4) (hr:∀ t∈r.tuples,bJ T t/\t.length=n):dT N (T:Int) r=some ((T:Int),r.arity,inS T r)/\vO (T:Int) r.arity=some ((T ^ n:Nat):Int)/\nJ (false:Bool) ((T ^ n:Nat):Int)=some (List.replicate (T ^ n) false):=by
 obtain⟨p1,p2⟩:=sX (N:=N) qa (n:=n) xG hN;have hp:=pP (T:=T) (k:=n) qa xG
 have hz:nJ (false:Bool) ((T ^ n:Nat):Int)=some (List.replicate (T ^ n) false):=by
  unfold nJ
  rw[if_pos ⟨xG,xG⟩,Ad]
 refine⟨?_,by rw[qc];exact p1,hz⟩
 unfold dT rI
 rw[qc,p2,bnd_s,hz,bnd_s,bnd_s];simp only;rw[xBq qa (n:=n) xG r.tuples 0 _ hr vK,thn_nx]
 unfold inS
 rw[qc,Ad]
theorem xFb {T:Nat} {u:A6} (hu:TV T u) {r:Rel} (h:r∈u.rels):∃ n:Nat,r.arity=(n:Int)/\(1<=n/\n<=4)/\(∀ t∈r.tuples,bJ T t/\t.length=n)/\r.tuples.length<=256:=by
 obtain⟨n,h1,h2,h3⟩:=(hu.r r h).bits;exact⟨n,h1,h2,h3,(hu.r r h).len hu.t⟩
theorem xIa {ρ ρ':Type} {N T m:Nat} {u:A6} {F G:List Int} {i0:Int} {b0:Bool} (hu:TV T u) (hm:1<=m/\m<=3) (hN:10<=N) (qa:tP m u.rels<=4000):∀ (l:List Rel) (pre:List Rel) (D:List (List lookT)),u.rels=pre++l->DueOk T m u.rels (tP m pre) D->
 ∃ D',oM (σ:=(List (List lookT))×(List (List Bool))) (ρ:=ρ) (λk1 (x1:Rel) s=>match s with | (s4,s5)=>xH (vO u.size x1.arity) λz1=>xH (nJ (false:Bool) z1) λz2=>qD (σ:=List Bool) (oM (λk2 (x2:(List Int)) s6=>xH (fG u.size x2) λz3=>xH (ix s6 z3) λz4=>some (.go (s6.set (z3).toNat true))) x1.tuples 0 z2) λs7=>xH (ap s5 ([s7])) λz5=>xH (vO (x1.tuples.length:Int) (m:Int)) λz6=>qD (σ:=List (List lookT)) (qU (λk3 s8=>xH (qX N (x1.tuples.length:Int) (m:Int) (k3:Int)) λz7=>qD (σ:=List Int) (qU (λk4 s9=>qD (σ:=Int) (oM (λk5 x3 s10=>xH (ck (s10*u.size)) λz8=>xH (ix x1.tuples x3) λz9=>xH (ix z9 (k4:Int)) λz10=>xH (ck (z8+z10)) λz11=>some (.go z11)) z7 0 0) λs11=>xH (ap s9 ([s11])) λz12=>some (.go z12)) x1.arity.toNat 0 []) λs12=>xH (kI s12) λz13=>xH (ix s8 z13) λz14=>xH (ap z14 ([(lookT.mk (k1:Int) s12)])) λz15=>some (.go (s8.set (z13).toNat z15))) z6.toNat 0 s4) λs13=>some (.go (s13,z5))) l pre.length (D,pre.map (inS T))=some (.nx (D',u.rels.map (inS T))) ∧
 oM (σ:=(List B7)×(List (List B4))) (ρ:=ρ') (λk6 (x4:Rel) s=>match s with | (s14,s15)=>xH (dT N u.size x4) λz16=>xH (ap s14 ([(B7.mk z16.1 z16.2.1 z16.2.2)])) λz17=>xH (iB N u (m:Int) z17 s15 F G i0 b0 (k6:Int)) λz18=>some (.go (z17,z18))) l pre.length (pre.map (xBw T),wJ D)=some (.nx (u.rels.map (xBw T),wJ D'))/\DueOk T m u.rels (tP m u.rels) D'
 | [],pre,D,hp,hD=>by
  rw[Ch] at hp;exact⟨D,by rw[hp];rfl,by rw[hp];rfl,by rw[hp] at hD ⊢;exact hD⟩
 | r::l,pre,D,hp,hD=>by
  have qd:r∈u.rels:=by rw[hp];simp
  obtain⟨n,r1,r2,r3,r4⟩:=xFb hu qd;obtain⟨p1,p2,p3,p4⟩:=xYm (N:=N) (r:=r) xG hm hN;obtain⟨s1,s2,s3⟩:=xWs (N:=N) hu.t hN r1 r2 r3
  have hpl:pre.length<=6:=by have:=hu.n;rw[hp,Ar] at this;omega
  have qe:tP m (pre++[r])=tP m pre+pwN m r:=by simp [tP]
  have hle:tP m pre+pwN m r<=4000:=by
   have:tP m u.rels=tP m pre+(pwN m r+tP m l):=by rw[hp];simp [tP]
   omega
  have qc:u.rels[pre.length]?=some r:=by rw[hp];simp
  obtain⟨D1,q1,q2,q3⟩:=xOc (ρ:=(Ctl ((List (List lookT))×(List (List Bool))) ρ)) (ρ':=List (List B4)) (N:=N) (P:=(pwN m r:Int)) hu.t hm hN qc r1 r2 r3 xG p4 (pwN m r) 0 (tP m pre) D xG hD xG;rw[<- qe] at q3;obtain⟨D',e1,e2,e3⟩:=xIa (ρ:=ρ) (ρ':=ρ') (F:=F) (G:=G) (i0:=i0) (b0:=b0) (N:=N) hu hm hN qa l (pre++[r]) D1 (by rw[hp];simp) q3;simp only[Ar,Am,List.map_append,Dg,Ew] at e1 e2;rw[hu.s] at e1 e2 ⊢;refine⟨D',?_,?_,e3⟩
  ·rw[vS (s':=(D1,pre.map (inS T)++[inS T r])) (by
    simp only;rw[s2,bnd_s,s3,bnd_s,xDq,xBq hu.t (n:=n) xG r.tuples 0 _ r3 vK,thn_nx,aC (by simp only[Am,Bw];omega),bnd_s,p1,bnd_s,Ad (pwN m r),q1,thn_nx]
    unfold inS
    rw[r1,Ad])]
   exact e1
  ·rw[vS (s':=(pre.map (xBw T)++[xBw T r],wJ D1)) (by
    simp only;rw[s1,bnd_s,aC (by simp only[Am,Bw];omega),bnd_s]
    unfold iB
    rw[hu.s,vD qc,bnd_s,p2,bnd_s,Ad (pwN m r),q2,thn_nx,bnd_s]
    rfl)]
   exact e2
theorem xXu {N T m:Nat} {u:A6} (hu:TV T u) (hm:1<=m/\m<=3) (hN:1100<=N) :
 ∃ z,pR u (m:Int)=some z ∧
 ((decide (4000<z)=true/\∃ q,iJ N u (m:Int)=some (q,3))∨(decide (4000<z)=false/\∃ D,pG N u (m:Int)=some (u.size,u.rels,(m:Int),D,u.rels.map (inS T),List.replicate (T ^ m) (-1),0,[])/\iJ N u (m:Int)=some ((u,(m:Int),u.rels.map (xBw T),wJ D,List.replicate (T ^ m) (-1),List.replicate (T ^ m) (-1),0,false),0)/\DueOk T m u.rels (tP m u.rels) D)):=by
 have hn:=hu.n
 have qa:∀ r∈u.rels,r.tuples.length<=1048576:=λr hr=>by
  obtain⟨_,_,_,_,h⟩:=xFb hu hr
  omega
 obtain⟨z,m1,m2,m3⟩:=xOz (ρ:=Int) (ρ':=(A6×Int×(List B7)×(List (List B4))×(List Int)×(List Int)×Int×Bool)×Int) (N:=N) hm xG u.rels 0 0 0 qa xG xG xG xG;have m4:=m3 (.inl rfl);rw[Int.zero_add] at m2 m4;refine⟨z,by unfold pR;rw[m1,thn_nx],?_⟩
 by_cases h:(4000:Int)<(tP m u.rels:Int)
 ·left
  refine⟨by rw[Bj];omega,(default,0,[],[],[],[],0,false),?_⟩
  unfold iJ
  rw[m2,thn_nx,if_pos (by rw[Bj];exact h)]
 ·right
  obtain⟨p1,p2⟩:=sX (N:=N) hu.t (n:=m) xG xG;have hp:=pP (T:=T) (k:=m) hu.t xG
  have z1:nJ ([]:List lookT) ((T ^ m:Nat):Int)=some (List.replicate (T ^ m) []):=by
   unfold nJ;rw[if_pos ⟨xG,xG⟩,Ad]
  have z2:nJ ([]:List B4) ((T ^ m:Nat):Int)=some (wJ (List.replicate (T ^ m) [])):=by
   unfold nJ wJ;rw[if_pos ⟨xG,xG⟩,Ad,List.map_replicate];rfl
  have z3:nJ (0:Int) ((T ^ m:Nat):Int)=some (List.replicate (T ^ m) 0):=by
   unfold nJ;rw[if_pos ⟨xG,xG⟩,Ad]
  have z4:qP [-1] ((T ^ m:Nat):Int)=some (List.replicate (T ^ m) (-1)):=by
   unfold qP
   rw[if_pos ⟨rfl,xG,xG⟩,Ad]
   rfl
  have d1:∀ (p:Nat) (l:List lookT),(List.replicate (T ^ m) ([]:List lookT))[p]?=some l->l=[]:=λp l hl=>by
   rw[Dm] at hl
   split at hl
   ·exact(Option.some.inj hl).symm
   ·cases hl
  have d0:DueOk T m u.rels (tP m []) (List.replicate (T ^ m) []):=⟨vK,λp l hl c hc=>by rw[d1 p l hl] at hc;simp at hc,λp l hl=>by rw[d1 p l hl];simp⟩;obtain⟨D,e1,e2,e3⟩:=xIa (ρ:=(Int×(List Rel)×Int×(List (List lookT))×(List (List Bool))×(List Int)×Int×(List Int))) (ρ':=(A6×Int×(List B7)×(List (List B4))×(List Int)×(List Int)×Int×Bool)×Int) (F:=List.replicate (T ^ m) (-1)) (G:=List.replicate (T ^ m) (-1)) (i0:=0) (b0:=false) (N:=N) hu hm xG xG u.rels [] (List.replicate (T ^ m) []) rfl d0;simp only[Bh,Ew] at e1 e2;have hf:=oGf (ρ:=(A6×Int×(List B7)×(List (List B4))×(List Int)×(List Int)×Int×Bool)×Int) (T ^ m) 0;rw[List.replicate_zero,Bp,Bn] at hf;refine⟨by rw[Db];omega,D,?_,?_,e3⟩
  ·unfold pG
   rw[hu.s,p1,bnd_s,z1,bnd_s,z4,bnd_s];rw[hu.s] at e1;rw[e1,thn_nx]
  ·unfold iJ
   rw[m2,thn_nx,if_neg (by rw[Bj];exact h)];rw[hu.s,p2,bnd_s,z2,bnd_s,z3,bnd_s,Ad,hf,thn_nx];simp only;rw[hu.s] at e2;rw[e2,thn_nx]
end
section
open Go.RowKit
inductive Fnd where
  | found (t:List Int)
  | stop
  | out (s:Nat)
section
variable (size most:Nat) (ok acc:List Int->Bool)
def nF (f:List Int->Nat->Fnd) (l:List Int):Nat->Nat->Nat->Fnd | 0,_,s=>.out s | r+1,a,s=>if s=most then .stop else if ok ((a:Int)::l) then (match f ((a:Int)::l) (s+1) with | .out s'=>nF f l r (a+1) s' | x=>x) else nF f l r (a+1) (s+1)
def xAx:Nat->List Int->Nat->Fnd | 0,l,s=>if acc l then .found l else .out s | d+1,l,s=>nF most ok (xAx d) l size 0 s
def gF (n:Nat):List Int->Nat->Nat->Fnd
 | [],a,s=>nF most ok (xAx size most ok acc (n - 1)) [] (size - a) a s
 | x::l,a,s=>match nF most ok (xAx size most ok acc (n - (l.length+1) - 1)) (x::l) (size - a) a s with
  | .out s'=>gF n l (x.toNat+1) s'
  | r=>r
variable {size most ok acc}
theorem xTn {n:Nat} {l:List Int} {a s:Nat} (h:a<size) (hs:s=most):gF size most ok acc n l a s= .stop:=by
 obtain⟨r,hr⟩:∃ r,size - a=r+1:=⟨size - a - 1,xG⟩
 cases l with
 | nil=>simp [gF,hr,nF,hs]
 | cons x l=>simp [gF,hr,nF,hs]
theorem xYp {n:Nat} {l:List Int} {a s:Nat} (h:a<size) (hs:s≠most) (hk:ok ((a:Int)::l)=false):gF size most ok acc n l a s=gF size most ok acc n l (a+1) (s+1):=by
 obtain⟨r,hr⟩:∃ r,size - a=r+1:=⟨size - a - 1,xG⟩;have qa:size - (a+1)=r:=xG
 cases l with
 | nil=>simp [gF,hr,qa,nF,hs,hk]
 | cons x l=>simp only[gF,hr,qa];rw[nF,if_neg hs,if_neg (by simp [hk])]
theorem xWv {n:Nat} {l:List Int} {a s:Nat} (h:a<size) (hs:s≠most) (hk:ok ((a:Int)::l)=true) (hn:l.length+1=n):gF size most ok acc n l a s=if acc ((a:Int)::l) then .found ((a:Int)::l) else gF size most ok acc n l (a+1) (s+1):=by
 obtain⟨r,hr⟩:∃ r,size - a=r+1:=⟨size - a - 1,xG⟩;have qa:size - (a+1)=r:=xG
 cases l with
 | nil=>
  obtain rfl:n=1:=vV hn.symm;simp only[gF,hr,qa,Em];rw[nF,if_neg hs,if_pos hk,xAx]
  by_cases g:acc [(a:Int)]=true<;>simp [g]
 | cons x l=>
  simp only[Ao] at hn;have e:n - (l.length+1) - 1=0:=xG;simp only[gF,hr,qa,e];rw[nF,if_neg hs,if_pos hk,xAx]
  by_cases g:acc ((a:Int)::x::l)=true<;>simp [g]
theorem xYc {n:Nat} {l:List Int} {a s:Nat} (h:a<size) (hs:s≠most) (hk:ok ((a:Int)::l)=true) (hn:l.length+1<n):gF size most ok acc n l a s=gF size most ok acc n ((a:Int)::l) 0 (s+1):=by
 obtain⟨r,hr⟩:∃ r,size - a=r+1:=⟨size - a - 1,xG⟩;have qa:size - (a+1)=r:=xG
 cases l with
 | nil=>
  simp only[Bh] at hn;obtain⟨d,rfl⟩:∃ d,n=d+2:=⟨n - 2,xG⟩;have e1:d+2 - 1=d+1:=xG;have e2:d+2 - (0+1) - 1=d:=xG;simp only[gF,hr,qa,Bh,e1,e2];rw[nF,if_neg hs,if_pos hk,xAx];simp only[Ad,qa,Fg,Nat.add_sub_cancel]
 | cons x l=>
  simp only[Ao] at hn;obtain⟨d,rfl⟩:∃ d,n=l.length+3+d:=⟨n - l.length - 3,xG⟩;have e1:l.length+3+d - (l.length+1) - 1=d+1:=xG;have e2:l.length+3+d - (l.length+1+1) - 1=d:=xG;simp only[gF,hr,qa,Ao,e1,e2];rw[nF,if_neg hs,if_pos hk,xAx];simp only[Ad,qa,Fg]
  cases nF most ok (xAx size most ok acc d) (↑a::x::l) size 0 (s+1)<;>simp
theorem xTs {n:Nat} {l:List Int} {x:Int} {a s:Nat} (h:size<=a):gF size most ok acc n (x::l) a s=gF size most ok acc n l (x.toNat+1) s:=by
 have hr:size - a=0:=xG
 simp [gF,hr,nF]
theorem xXj {n:Nat} {a s:Nat} (h:size<=a):gF size most ok acc n [] a s= .out s:=by
 have hr:size - a=0:=xG
 simp [gF,hr,nF]
theorem xXi {n:Nat} {s:Nat} (hn:0<n):gF size most ok acc n [] 0 s=xAx size most ok acc n [] s:=by
 obtain⟨d,rfl⟩:∃ d,n=d+1:=⟨n - 1,xG⟩
 simp [gF,xAx]
end
end
section
variable {T:Nat} {tab:List Int} {p:Nat}
def okC (T:Nat) (u:A6) (tab:List Int) (c:lookT):Bool:=((u.rels.map (inS T)).getD c.rel.toNat []).getD (kD T (atV tab c.cells)).toNat false
def okT (T:Nat) (u:A6) (D:List (List lookT)) (tab:List Int):Bool:=(D.getD (tab.length - 1) []).all (okC T u tab)
theorem oDr {n:Nat} {r:Rel} (h:r.arity=(n:Int)):(inS T r).length=T ^ n:=by
 unfold inS
 rw[yL,Bv,h,Ad]
theorem xQv {u:A6} {c:lookT} (hu:TV T u) (hc:CondOk u.rels p c) (ht:bJ T tab) (hp:p<tab.length):(bJ T (atV tab c.cells)/\(atV tab c.cells).length<5)/\∃ r,r∈u.rels/\ix (u.rels.map (inS T)) c.rel=some (inS T r)/\ix (u.rels.map (xBw T)) c.rel=some (xBw T r)/\ix (inS T r) (kD T (atV tab c.cells))=some (okC T u tab c):=by
 obtain⟨k,n,r,h1,h2,h3,h4,h5⟩:=hc.ex;obtain⟨n',r1,r2,_⟩:=xFb hu h3
 have hb:bJ T (atV tab c.cells):=by
  intro a ha;obtain⟨i,hi,rfl⟩:=Cy.1 ha;exact oKe hu.t ht i.toNat
 have hl:(atV tab c.cells).length=n:=by unfold atV;rw[Bw,h5]
 have qc:(atV tab c.cells).length<5:=xG;obtain⟨_,c2,c3⟩:=sT hu.t hb qc
 have hi:(u.rels.map (inS T))[k]?=some (inS T r):=by rw[Bc,h2];rfl
 have hs:(u.rels.map (xBw T))[k]?=some (xBw T r):=by rw[Bc,h2];rfl
 rw[hl] at c3
 have qa:(kD T (atV tab c.cells)).toNat<(inS T r).length:=by rw[oDr h4];omega
 have hg:(inS T r)[(kD T (atV tab c.cells)).toNat]?=some ((inS T r)[(kD T (atV tab c.cells)).toNat]'qa):=Aa qa;refine⟨⟨hb,qc⟩,r,h3,by rw[h1];exact vD hi,by rw[h1];exact vD hs,?_⟩
 have qd:okC T u tab c=(inS T r)[(kD T (atV tab c.cells)).toNat]'qa:=by
  unfold okC
  rw[h1,Ad,Ap (l:=u.rels.map (inS T)),hi,Ej,Ap,hg,Ej]
 rw[qd];exact iU c2 hg
theorem xUg {ρ:Type} {u:A6} {c:lookT} (hu:TV T u) (hc:CondOk u.rels p c) (ht:bJ T tab) (hp:p<tab.length):oM (σ:=Int) (ρ:=ρ) (λk1 x1 s1 =>xH (ck (s1*(T:Int))) λz1=>xH (ix tab x1) λz2=>xH (ck (z1+z2)) λz3=>some (.go z3)) c.cells 0 0=some (.nx (kD T (atV tab c.cells))):=by
 obtain⟨⟨hb,h5⟩,_⟩:=xQv hu hc ht hp
 rw[uX (λi=>tab.getD i.toNat 0) (b':=λ(k2:Nat) (x2:Int) (s2:Int)=>xH (ck (s2*(T:Int))) λz4=>xH (ck (z4+x2)) λz5=>some (.go z5)) c.cells 0 0 (λi x s hx=>by
  have:=hc.le x hx;have qa:x.toNat<tab.length:=xG;have e:tab[x.toNat]?=some (tab[x.toNat]'qa):=Aa qa;rw[kP e,iU this.1 e]
  simp only[bnd_s])]
 refine wX hu.t _ 0 0 hb xG ?_;have:=pP (T:=T) (k:=(atV tab c.cells).length) hu.t h5
 show(0+1)*((T ^ (atV tab c.cells).length:Nat):Int)<=1000
 omega
theorem oDg {m B:Nat} {u:A6} {D:List (List lookT)} {told:List Int} {s:Int} (hu:TV T u) (hD:DueOk T m u.rels B D) (ht:bJ T tab) (h1:1<=tab.length) (hn:tab.length<=T ^ m) (hm:m<=3):bG u.size u.rels (m:Int) D (u.rels.map (inS T)) told s tab=some (okT T u D tab):=by
 have hpw:=pP (T:=T) (k:=m) hu.t xG
 have qa:tab.length - 1<D.length:=by rw[hD.ln];omega
 have hl:D[tab.length - 1]?=some (D[tab.length - 1]'qa):=Aa qa
 unfold bG okT
 rw[zO xG xG,bnd_s,show((tab.length:Int) - 1)=((tab.length - 1:Nat):Int) by omega,vD hl,bnd_s,Ap,hl,Ej,hu.s]
 exact xGd (okC T u tab) (λj c hc=>by
  have qc:=hD.ok _ _ hl c (Af hc);obtain⟨_,r,r1,r2,_,r4⟩:=xQv hu qc ht xG;simp only;rw[xUg hu qc ht xG,thn_nx,r2,bnd_s,r4,bnd_s]
  cases okC T u tab c<;>rfl)
theorem oDu {T:Nat} {u:A6} {c:lookT} {tab':List Int} (hc:CondOk u.rels p c) (h:tab'.take (p+1)=tab):atV tab' c.cells=atV tab c.cells:=by
 unfold atV
 refine List.map_congr_left λa ha=>?_;have:=hc.le a ha;rw[<- h,Ap,Ap,List.getElem?_take_of_lt xG]
theorem oGa {m B:Nat} {u:A6} {D:List (List lookT)} {F tab':List Int} {s:Int} {b:Bool} (hu:TV T u) (hD:DueOk T m u.rels B D) (ht:bJ T tab) (h1:tab.length=p+1) (hn:tab.length<=T ^ m) (h:tab'.take (p+1)=tab):eA u (m:Int) (u.rels.map (xBw T)) (wJ D) F tab' s b (p:Int)=some (okT T u D tab):=by
 have qc:p<D.length:=by rw[hD.ln];omega
 have hl:D[p]?=some (D[p]'qc):=Aa qc
 have htl:p+1<=tab'.length:=by
  have:=congrArg List.length h;rw[Bd] at this;omega
 unfold eA okT
 rw[vD (xVa hl),bnd_s,Ap,show tab.length - 1=p by omega,hl,Ej,Ad,Bw]
 rw[nH (g:=λ(k:Nat) (c:lookT) (s:Unit)=>some (if okC T u tab c then Ctl.go () else Ctl.ret false)) (D[p]'qc) 0 0 () (λj c s' hc=>by
  have qa:=hD.ok _ _ hl c (Af hc);obtain⟨⟨hb,h5⟩,r,r1,_,r3,r4⟩:=xQv hu qa ht xG
  have qd:((D[p]'qc).map toC)[j]?=some (toC c):=by rw[Bc,hc];rfl
  rw[Bn];simp only[vD qd,bnd_s,toC,r3];rw[xKc (λi hi=>⟨(qa.le i hi).1,by have:=(qa.le i hi).2;omega⟩) (by obtain⟨_,n,_,_,_,h3,h4,h6⟩:=qa.ex;obtain⟨n',e1,e2,_⟩:=xFb hu h3;omega),bnd_s,oDu (T:=T) qa h,hu.s,(sT hu.t hb h5).1,bnd_s]
  unfold xBw
  simp only;rw[r4,bnd_s]
  cases okC T u tab c<;>rfl)]
 exact xGd (okC T u tab) (λj c hc=>rfl)
def SR (m:Nat) (l:List Int) (r:Int×Int×List Int×Int×List Int):Fnd->Prop | .out s=>r=(0,(s:Int),l.reverse,0,[])/\s<=6000 | .stop=>r.1=7/\r.2.2.1=l.reverse | .found t=>r.1= -1/\r.2.2.1=l.reverse/\r.2.2.2=((m:Int),t.reverse)
def SV' (m:Nat) (l:List Int) (o:Out (Int×List Int×Int×List Int) (Int×Int×List Int×Int×List Int)):Fnd->Prop | .out s=>o= .nx ((s:Int),l.reverse,0,[])/\s<=6000 | .stop=>∃ r,o= .ret r/\SR m l r .stop | .found t=>∃ r,o= .ret r/\SR m l r (.found t)
theorem xIh {T m B:Nat} {kind:Int} {u:A6} {D:List (List lookT)} {acc:Op->Bool} (hu:TV T u) (hm:1<=m/\m<=3) (hD:DueOk T m u.rels B D) (qa:∀ o N,B9 T o m->13<=N->zR N (T:Int) o kind=some (acc o)):∀ (d:Nat) (l:List Int) (s N:Nat),l.length+d=T ^ m->d+14<=N->bJ T l->s<=6000->
 ∃ r,zF N u.size u.rels (m:Int) D (u.rels.map (inS T)) (List.replicate (T ^ m) (-1)) (s:Int) l.reverse u kind 0 []=some r/\SR m l r (xAx T 6000 (λl=>okT T u D l.reverse) (λl=>acc ⟨(m:Int),l.reverse⟩) d l s)
 | 0,l,s,N,hl,hN,hb,hs=>by
  obtain⟨N,rfl⟩:∃ M,N=M+1:=⟨N - 1,xG⟩;have qg:=pP (T:=T) (k:=m) hu.t xG
  have e1:((l.reverse.length:Int)==((List.replicate (T ^ m) (-1:Int)).length:Int))=true:=by rw[De,List.length_reverse,Bv];omega
  have qd:bJ T l.reverse:=λa ha=>hb a (List.mem_reverse.1 ha);have qh:B9 T ⟨(m:Int),l.reverse⟩ m:=⟨rfl,hm.1,hm.2,by simp;omega,qd⟩;have hk:=qa _ N qh xG
  unfold zF eO fO
  rw[if_pos e1,xCn (by rw[List.length_reverse];omega),bnd_s];simp only[hu.s,hk,bnd_s]
  unfold xAx
  by_cases ha:acc ⟨(m:Int),l.reverse⟩=true
  ·simp only[ha,Br,Ah,if_false,bnd_s,if_true]
   exact⟨_,rfl,rfl,rfl,rfl⟩
  ·have qi:acc ⟨(m:Int),l.reverse⟩=false:=vV ha
   simp only[qi,Co,if_true,bnd_s,Ah,if_false];exact⟨_,rfl,rfl,hs⟩
 | d+1,l,s,N,hl,hN,hb,hs=>by
  obtain⟨N,rfl⟩:∃ M,N=M+1:=⟨N - 1,xG⟩;have qg:=pP (T:=T) (k:=m) hu.t xG
  have e1:((l.reverse.length:Int)==((List.replicate (T ^ m) (-1:Int)).length:Int))=false:=by rw[Ds,List.length_reverse,Bv];omega
  have ht:ix (List.replicate (T ^ m) (-1:Int)) (l.reverse.length:Int)=some (-1):=vD (by rw[Dm,if_pos (by rw[List.length_reverse];omega)])
  have key:∀ (r a s:Nat),a+r=T->s<=6000->∃ o,qU (σ:=Int×(List Int)×Int×(List Int)) (ρ:=Int×Int×(List Int)×Int×(List Int)) (λk1 s=>match s with | (s1,s2,s3,s4)=>qD (σ:=Bool) (xH (ix (List.replicate (T ^ m) (-1:Int)) (l.reverse.length:Int)) λz6=>if (decide (0<=z6)) then some (.nx (z6 != (k1:Int))) else some (.nx false)) λs5=>if s5 then some (.go (s1,s2,s3,s4)) else if (s1==6000) then some (.ret (7,s1,s2,s3,s4)) else xH (ck (s1+1)) λz7=>xH (ap s2 ([(k1:Int)])) λz8=>xH (bG u.size u.rels (m:Int) D (u.rels.map (inS T)) (List.replicate (T ^ m) (-1)) z7 z8) λz9=>qD (σ:=Int×Int×(List Int)×Int×(List Int)) (if z9 then xH (zF N u.size u.rels (m:Int) D (u.rels.map (inS T)) (List.replicate (T ^ m) (-1)) z7 z8 u kind s3 s4) λz10=>some (.nx (z10.1,z10.2.1,z10.2.2.1,z10.2.2.2.1,z10.2.2.2.2)) else some (.nx (0,z7,z8,s3,s4))) λ(s6,s7,s8,s9,s10)=>xH (sl s8 0 (l.reverse.length:Int)) λz11=>if (s6 != 0) then some (.ret (s6,s7,z11,s9,s10)) else some (.go (s7,z11,s9,s10))) r a ((s:Int),l.reverse,0,[])=some o/\SV' m l o (nF 6000 (λl=>okT T u D l.reverse) (xAx T 6000 (λl=>okT T u D l.reverse) (λl=>acc ⟨(m:Int),l.reverse⟩) d) l r a s):=by
   intro r
   induction r with
   | zero=>intro a s _ hs;exact⟨_,rfl,rfl,hs⟩
   | succ r ih=>
    intro a s ha hs
    unfold nF
    by_cases h6:s=6000
    ·rw[if_pos h6]
     refine⟨_,lK (by
      simp only[ht,bnd_s];rw[show decide ((0:Int)<=-1)=false from rfl,if_neg vK,thn_nx,if_neg vK,h6]
      rfl),_,rfl,rfl,rfl⟩
    ·rw[if_neg h6]
     have e6:((s:Int)==6000)=false:=by rw[Ds];omega
     have qj:ap l.reverse [(a:Int)]=some ((a:Int)::l).reverse:=by
      rw[aC (by simp only[List.length_reverse,Am];omega),Ff]
     have qf:bJ T ((a:Int)::l):=by
      intro x hx
      rcases Av.1 hx with rfl | hx
      ·omega
      ·exact hb x hx
     have qd:bJ T ((a:Int)::l).reverse:=λx hx=>qf x (List.mem_reverse.1 hx);have hg:=oDg (told:=List.replicate (T ^ m) (-1)) (s:=(s:Int)+1) hu hD qd vK (by simp;omega) hm.2
     have qc:sl ((a:Int)::l).reverse 0 (l.reverse.length:Int)=some l.reverse:=by
      rw[xBg vK,Ff,Cx vK,Cn vK]
     have pre:∀ (X:Option (Ctl (Int×(List Int)×Int×(List Int)) (Int×Int×(List Int)×Int×(List Int)))),(xH (bG u.size u.rels (m:Int) D (u.rels.map (inS T)) (List.replicate (T ^ m) (-1)) ((s:Int)+1) ((a:Int)::l).reverse) λz9=>qD (σ:=Int×Int×(List Int)×Int×(List Int)) (if z9 then xH (zF N u.size u.rels (m:Int) D (u.rels.map (inS T)) (List.replicate (T ^ m) (-1)) ((s:Int)+1) ((a:Int)::l).reverse u kind 0 []) λz10=>some (.nx (z10.1,z10.2.1,z10.2.2.1,z10.2.2.2.1,z10.2.2.2.2)) else some (.nx (0,(s:Int)+1,((a:Int)::l).reverse,0,[]))) λ(s6,s7,s8,s9,s10)=>xH (sl s8 0 (l.reverse.length:Int)) λz11=>if (s6 != 0) then some (.ret (s6,s7,z11,s9,s10)) else some (.go (s7,z11,s9,s10)))=X->(λ(k1:Nat) (s:Int×(List Int)×Int×(List Int))=>match s with | (s1,s2,s3,s4)=>qD (σ:=Bool) (xH (ix (List.replicate (T ^ m) (-1:Int)) (l.reverse.length:Int)) λz6=>if (decide (0<=z6)) then some (.nx (z6 != (k1:Int))) else some (.nx false)) λs5=>if s5 then some (.go (s1,s2,s3,s4)) else if (s1==6000) then some (.ret (7,s1,s2,s3,s4)) else xH (ck (s1+1)) λz7=>xH (ap s2 ([(k1:Int)])) λz8=>xH (bG u.size u.rels (m:Int) D (u.rels.map (inS T)) (List.replicate (T ^ m) (-1)) z7 z8) λz9=>qD (σ:=Int×Int×(List Int)×Int×(List Int)) (if z9 then xH (zF N u.size u.rels (m:Int) D (u.rels.map (inS T)) (List.replicate (T ^ m) (-1)) z7 z8 u kind s3 s4) λz10=>some (.nx (z10.1,z10.2.1,z10.2.2.1,z10.2.2.2.1,z10.2.2.2.2)) else some (.nx (0,z7,z8,s3,s4))) λ(s6,s7,s8,s9,s10)=>xH (sl s8 0 (l.reverse.length:Int)) λz11=>if (s6 != 0) then some (.ret (s6,s7,z11,s9,s10)) else some (.go (s7,z11,s9,s10))) a ((s:Int),l.reverse,0,[])=X:=by
      intro X hX;simp only[ht,bnd_s];rw[show decide ((0:Int)<=-1)=false from rfl,if_neg vK,thn_nx,if_neg vK,e6,if_neg vK,zO xG xG,bnd_s,qj,bnd_s];exact hX
     by_cases hk:okT T u D ((a:Int)::l).reverse=true
     ·rw[if_pos hk]
      obtain⟨z,z1,z2⟩:=xIh hu hm hD qa d ((a:Int)::l) (s+1) N (by simp;omega) xG qf xG;rw[show((s+1:Nat):Int)=(s:Int)+1 by omega] at z1;generalize xAx T 6000 (λl=>okT T u D l.reverse) (λl=>acc ⟨(m:Int),l.reverse⟩) d ((a:Int)::l) (s+1)=f at z2
      cases f with
      | out s'=>
       obtain⟨rfl,qe⟩:=z2;obtain⟨o,o1,o2⟩:=ih (a+1) s' xG qe;refine⟨o,?_,o2⟩
       rw[zQ (pre _ (by
        rw[hg,bnd_s,if_pos hk,z1,bnd_s,thn_nx];simp only
        rw[qc,bnd_s,if_neg kS]))]
       exact o1
      | stop=>
       obtain⟨z3,z4⟩:=z2
       refine⟨_,lK (pre _ (by
        rw[hg,bnd_s,if_pos hk,z1,bnd_s,thn_nx];simp only
        rw[z4,qc,bnd_s,if_pos (by rw[z3];decide)])),(z.1,z.2.1,l.reverse,z.2.2.2.1,z.2.2.2.2),rfl,z3,rfl⟩
      | found t=>
       obtain⟨z3,z4,z5⟩:=z2
       refine⟨_,lK (pre _ (by
        rw[hg,bnd_s,if_pos hk,z1,bnd_s,thn_nx];simp only
        rw[z4,qc,bnd_s,if_pos (by rw[z3];decide)])),(z.1,z.2.1,l.reverse,z.2.2.2.1,z.2.2.2.2),rfl,z3,rfl,z5⟩
     ·rw[if_neg hk]
      obtain⟨o,o1,o2⟩:=ih (a+1) (s+1) xG xG;rw[show((s+1:Nat):Int)=(s:Int)+1 by omega] at o1;refine⟨o,?_,o2⟩
      rw[zQ (pre _ (by
       rw[hg,bnd_s,if_neg hk,thn_nx];simp only
       rw[qc,bnd_s,if_neg kS]))]
      exact o1
  obtain⟨o,o1,o2⟩:=key T 0 s xG hs
  unfold zF
  rw[if_neg (by rw[e1];simp)]
  have hT:u.size.toNat=T:=by rw[hu.s,Ad]
  simp only[hT];rw[o1];have qk:xAx T 6000 (λl=>okT T u D l.reverse) (λl=>acc ⟨(m:Int),l.reverse⟩) (d+1) l s=nF 6000 (λl=>okT T u D l.reverse) (xAx T 6000 (λl=>okT T u D l.reverse) (λl=>acc ⟨(m:Int),l.reverse⟩) d) l T 0 s:=rfl;rw[qk];generalize nF 6000 (λl=>okT T u D l.reverse) (xAx T 6000 (λl=>okT T u D l.reverse) (λl=>acc ⟨(m:Int),l.reverse⟩) d) l T 0 s=f at o2 ⊢
  cases f with
  | out s'=>
   obtain⟨rfl,qe⟩:=o2;exact⟨_,rfl,rfl,qe⟩
  | stop=>
   obtain⟨r,rfl,h⟩:=o2;exact⟨_,rfl,h⟩
  | found t=>
   obtain⟨r,rfl,h⟩:=o2;exact⟨_,rfl,h⟩
end
section
def stT (n:Nat) (l:List Int) (a:Nat):List Int:=l.reverse++((a:Int) - 1)::List.replicate (n - l.length - 1) (-1)
theorem xQd {n a:Nat} {l:List Int}:(stT n l a)[l.length]?=some ((a:Int) - 1):=by
 unfold stT
 rw[Bb vK]
 simp
theorem xFy {n a:Nat} {l:List Int} (v:Int):(stT n l a).set l.length v=l.reverse++v::List.replicate (n - l.length - 1) (-1):=by
 unfold stT
 rw[Ey _ _ vK]
 simp
theorem oAj {n a:Nat} {x:Int} {l:List Int} (hx:0<=x) (h:l.length+1<n):(stT n (x::l) a).set (l.length+1) (-1)=stT n l (x.toNat+1):=by
 have:=xFy (n:=n) (a:=a) (l:=x::l) (-1);rw[Ao] at this;rw[this]
 unfold stT
 rw[Ff,Dl,List.singleton_append,show(((x.toNat+1:Nat):Int) - 1)=x by omega,show n - l.length - 1=(n - (l.length+1) - 1)+1 by omega,Dk]
theorem oGx {n a:Nat} {l:List Int} (h:l.length+1<n):(stT n l a).set l.length (a:Int)=stT n ((a:Int)::l) 0:=by
 rw[xFy]
 unfold stT
 rw[Ff,Dl,List.singleton_append,Ao,show((0:Nat):Int) - 1= -1 from rfl,show n - l.length - 1=(n - (l.length+1) - 1)+1 by omega,Dk]
theorem oBd {n a:Nat} {l:List Int}:(stT n l a).set l.length (a:Int)=stT n l (a+1):=by
 rw[xFy]
 unfold stT
 rw[show(((a+1:Nat):Int) - 1)=(a:Int) by omega]
theorem xVr {n a:Nat} {l:List Int} (h:l.length+1=n):(stT n l a).set l.length (a:Int)=((a:Int)::l).reverse:=by
 rw[xFy,show n - l.length - 1=0 by omega,Ff]
 rfl
theorem oCg {n a:Nat} {l:List Int}:((stT n l a).set l.length (a:Int)).take (l.length+1)=((a:Int)::l).reverse:=by
 rw[xFy,Ff,show l.reverse++(a:Int)::List.replicate (n - l.length - 1) (-1)=(l.reverse++[(a:Int)])++List.replicate (n - l.length - 1) (-1) by simp,Cx vK,Cn vK]
theorem xYn {T n m a:Nat} {u:A6} {X:List B7} {C:List (List B4)} {l:List Int} {s:Int} {b:Bool} (hu:TV T u) (hl:l.length<n) (ha:a<=4):cW u (m:Int) X C (List.replicate n (-1)) (stT n l a) s b (l.length:Int)=some (if a<T then (a:Int) else -1):=by
 have h1:ix (List.replicate n (-1:Int)) (l.length:Int)=some (-1):=vD (by rw[Dm,if_pos hl])
 unfold cW
 rw[h1,bnd_s,if_neg kS,vD xQd,bnd_s,zO xG xG,bnd_s,hu.s,show(a:Int) - 1+1=(a:Int) by omega]
 by_cases h:a<T
 ·rw[if_pos h,if_pos (by rw[Bj];omega)]
 ·rw[if_neg h,if_neg (by rw[Bj];omega)]
section
variable {T m B n:Nat} {u:A6} {D:List (List lookT)} {acc:Op->Bool}
def NR (K T m n:Nat) (ok:List Int->Bool) (acc:List Int->Bool) (f:Fnd) (s:Nat) (o:Out (Int×(List Int)×Int) (Bool×Int×(List Int)×Int×Bool)):Prop:= (∃ s' tab,f= .out s'/\o= .nx (-1,tab,(s':Int)))∨(∃ r,f= .stop/\o= .ret r/\r.1=false/\r.2.1=7)∨∃ (l:List Int) (a s':Nat),l.length+1=n/\a<T/\bJ T l/\s<s'/\s'<=K/\o= .ret (true,0,((a:Int)::l).reverse,(s':Int),true)/\f=if acc ((a:Int)::l) then .found ((a:Int)::l) else gF T K ok acc n l (a+1) s'
theorem xXf {K:Nat} (hK:(K:Int)=6000) (hu:TV T u) (hm:1<=m/\m<=3) (hD:DueOk T m u.rels B D) (hn:n=T ^ m) {ac:List Int->Bool} {tl:Nat} (htl:tl=n):∀ (M:Nat) (l:List Int) (a s N:Nat),2*(K+1 - s)+l.length+1<=M->M<N->l.length<n->bJ T l->a<=T->s<=K->
 ∃ o,lF (σ:=Int×(List Int)×Int) (ρ:=Bool×Int×(List Int)×Int×Bool) (λs=>match s with | (s1,s2,s3)=>if (decide (0<=s1)) then xH (cW u (m:Int) (u.rels.map (xBw T)) (wJ D) (List.replicate n (-1)) s2 s3 true s1) λz1=>if (decide (z1<0)) then xH (ix s2 s1) λz2=>xH (ck (s1 - 1)) λz3=>some (.go (z3,(s2.set (s1).toNat (-1)),s3)) else xH (ck (s3+1)) λz4=>if (decide (6000<z4)) then some (.ret (false,7,s2,z4,true)) else xH (ix s2 s1) λz5=>xH (eA u (m:Int) (u.rels.map (xBw T)) (wJ D) (List.replicate n (-1)) (s2.set (s1).toNat z1) z4 true s1) λz6=>if (!z6) then some (.go (s1,(s2.set (s1).toNat z1),z4)) else xH (ck (s1+1)) λz7=>if (z7==(tl:Int)) then some (.ret (true,0,(s2.set (s1).toNat z1),z4,true)) else some (.go (z7,(s2.set (s1).toNat z1),z4)) else some (.brk (s1,s2,s3))) N ((l.length:Int),stT n l a,(s:Int))=some o/\NR K T m n (λl=>okT T u D l.reverse) ac (gF T K (λl=>okT T u D l.reverse) ac n l a s) s o:=by
 intro M
 induction M with
 | zero=>intro l a s N hM;omega
 | succ M ih=>
  intro l a s N hM hN hl hb ha hs;obtain⟨N,rfl⟩:∃ N',N=N'+1:=⟨N - 1,xG⟩;have hpw:=pP (T:=T) (k:=m) hu.t xG;have hT4:=hu.t
  have p0:decide (0<=(l.length:Int))=true:=by rw[Bj];omega
  have ho:=xYn (m:=m) (X:=u.rels.map (xBw T)) (C:=wJ D) (s:=(s:Int)) (b:=true) hu hl (show a<=4 by omega)
  by_cases h:a<T
  ·rw[if_pos h] at ho
   have h0:decide ((a:Int)<0)=false:=by rw[Db];omega
   have qc:ck ((s:Int)+1)=some ((s:Int)+1):=zO xG xG;have qa:ck ((l.length:Int)+1)=some ((l.length:Int)+1):=zO xG xG;have qd:ix (stT n l a) (l.length:Int)=some ((a:Int) - 1):=vD xQd
   by_cases h6:s=K
   ·have qh:decide ((6000:Int)<(s:Int)+1)=true:=decide_eq_true xG
    refine⟨_,wP (r:=(false,7,stT n l a,(s:Int)+1,true)) (by
     simp only[p0,if_true,ho,bnd_s,h0,Ah,if_false,qc,qh]),.inr (.inl ⟨_,xTn h h6,rfl,rfl,rfl⟩)⟩
   ·have qe:bJ T ((a:Int)::l):=by
     intro x hx
     rcases Av.1 hx with rfl | hx
     ·omega
     ·exact hb x hx
    have qi:bJ T ((a:Int)::l).reverse:=λx hx=>qe x (List.mem_reverse.1 hx);have hf:=oGa (p:=l.length) (F:=List.replicate n (-1)) (s:=(s:Int)+1) (b:=true) hu hD qi vK (by simp;omega) (oCg (n:=n) (a:=a) (l:=l))
    have h7:decide ((6000:Int)<(s:Int)+1)=false:=by rw[Db];omega
    by_cases hk:okT T u D ((a:Int)::l).reverse=true
    ·by_cases he:l.length+1=n
     ·have hq:((l.length:Int)+1==(tl:Int))=true:=by rw[De];omega
      refine⟨_,wP (r:=(true,0,((a:Int)::l).reverse,(s:Int)+1,true)) (by
       simp only[p0,if_true,ho,bnd_s,h0,Ah,if_false,Ad,qc,h7,qd,hf,hk,Br,qa,hq]
       rw[xVr he]),.inr (.inr ⟨l,a,s+1,he,h,hb,xG,xG,rfl,xWv h h6 hk he⟩)⟩
     ·obtain⟨o,o1,o2⟩:=ih ((a:Int)::l) 0 (s+1) N (by simp;omega) xG (by simp;omega) qe xG xG
      refine⟨o,?_,?_⟩
      ·rw[eF (s':=((((a:Int)::l).length:Int),stT n ((a:Int)::l) 0,((s+1:Nat):Int))) (by
        have hq:((l.length:Int)+1==(tl:Int))=false:=by rw[Ds];omega
        simp only[p0,if_true,ho,bnd_s,h0,Ah,if_false,Ad,qc,h7,qd,hf,hk,Br,qa,hq];rw[oGx xG]
        rfl)]
       exact o1
      ·rw[xYc h h6 hk xG]
       rcases o2 with h | h | ⟨l',a',s',g1,g2,g3,g4,g5,g6,g7⟩
       ·exact .inl h
       ·exact .inr (.inl h)
       ·exact .inr (.inr ⟨l',a',s',g1,g2,g3,xG,g5,g6,g7⟩)
    ·have qf:okT T u D ((a:Int)::l).reverse=false:=vV hk
     obtain⟨o,o1,o2⟩:=ih l (a+1) (s+1) N xG xG hl hb xG xG;refine⟨o,?_,?_⟩
     ·rw[eF (s':=((l.length:Int),stT n l (a+1),((s+1:Nat):Int))) (by
       simp only[p0,if_true,ho,bnd_s,h0,Ah,if_false,Ad,qc,h7,qd,hf,qf,Co];rw[oBd]
       rfl)]
      exact o1
     ·rw[xYp h h6 qf]
      rcases o2 with h | h | ⟨l',a',s',g1,g2,g3,g4,g5,g6,g7⟩
      ·exact .inl h
      ·exact .inr (.inl h)
      ·exact .inr (.inr ⟨l',a',s',g1,g2,g3,xG,g5,g6,g7⟩)
  ·rw[if_neg h] at ho
   cases l with
   | nil=>
    obtain⟨N,rfl⟩:∃ N',N=N'+1:=⟨N - 1,by simp at hM;omega⟩;refine⟨.nx (-1,(stT n [] a).set 0 (-1),(s:Int)),?_,.inl ⟨s,_,xXj xG,rfl⟩⟩
    rw[eF (s':=(-1,(stT n [] a).set 0 (-1),(s:Int))) (by
     simp only[p0,if_true,ho,bnd_s];rw[if_pos kS,vD xQd,bnd_s,zO vK vK,bnd_s,Ad]
     simp),bU (by
     simp only
     rw[if_neg kS])]
   | cons x l=>
    have hx:=hb x (Bg ..);rw[Ao] at hM hl p0 ho;obtain⟨o,o1,o2⟩:=ih l (x.toNat+1) s N xG xG xG (λy hy=>hb y (At _ hy)) xG hs;refine⟨o,?_,by rw[xTs xG];exact o2⟩
    rw[eF (s':=((l.length:Int),stT n l (x.toNat+1),(s:Int))) (by
     simp only[Ao,p0,if_true,ho,bnd_s];have qg:=xQd (n:=n) (a:=a) (l:=x::l);rw[Ao] at qg;rw[if_pos kS,vD qg,bnd_s,zO xG xG,bnd_s,Ad,oAj hx.1 xG]
     congr 3
     omega)]
    exact o1
def FO (m:Nat):Fnd->Op×Int | .out _=>(⟨0,[]⟩,6) | .stop=>(⟨0,[]⟩,7) | .found t=>(⟨(m:Int),t.reverse⟩,0)
theorem xWy {N K:Nat} (hK:(K:Int)=6000) {kind:Int} {tl:Nat} (hu:TV T u) (hm:1<=m/\m<=3) (hD:DueOk T m u.rels B D) (hn:n=T ^ m) (hN:13000<=N) (qe:∀ o,B9 T o m->bR N (T:Int) o kind=some (acc o)):∀ (M:Nat) (l:List Int) (a s:Nat) (b:Bool),K+1 - s<=M->l.length<n->bJ T l->a<=T->s<=K->(b=true->l.length+1=n)->(b=false->l=[])->
 lF (σ:=(List Int)×Int×Bool) (ρ:=Op×Int) (λs=>match s with | (s1,s2,s3)=>xH (dX N u (m:Int) (u.rels.map (xBw T)) (wJ D) (List.replicate n (-1)) s1 s2 s3) λz1=>if (z1.2.1 != 0) then some (.ret ((Op.mk 0 ([])),z1.2.1)) else if (!z1.1) then some (.ret ((Op.mk 0 ([])),6)) else xH (fY u (m:Int) (u.rels.map (xBw T)) (wJ D) (List.replicate n (-1)) z1.2.2.1 z1.2.2.2.1 z1.2.2.2.2) λz2=>xH (bR N u.size (Op.mk z2.arity z2.table) kind) λz3=>if z3 then some (.ret ((Op.mk z2.arity z2.table),0)) else some (.go (z1.2.2.1,z1.2.2.2.1,z1.2.2.2.2))) (M+1) (stT n l a,(s:Int),b)=some (.ret (FO m (gF T K (λl=>okT T u D l.reverse) (λl=>acc ⟨(m:Int),l.reverse⟩) n l a s)))/\∀ t,gF T K (λl=>okT T u D l.reverse) (λl=>acc ⟨(m:Int),l.reverse⟩) n l a s= .found t->B9 T ⟨(m:Int),t.reverse⟩ m:=by
 intro M
 induction M with
 | zero=>intro l a s b hM;omega
 | succ M ih=>
  intro l a s b hM hl hb ha hs qh qi;have hpw:=pP (T:=T) (k:=m) hu.t xG
  have qf:(stT n l a).length=n:=by unfold stT;simp;omega
  obtain⟨o,o1,o2⟩:=xXf (n:=n) (ac:=λl=>acc ⟨(m:Int),l.reverse⟩) (tl:=(stT n l a).length) hK hu hm hD hn qf (2*(K+1 - s)+l.length+1) l a s N (Az _) xG hl hb ha hs
  have qc:(qD (σ:=Int) (ρ:=Bool×Int×(List Int)×Int×Bool) (if b then xH (ck (((stT n l a).length:Int) - 1)) λz4=>some (.nx z4) else some (.nx 0)))=λk=>k (l.length:Int):=by
   cases b with
   | true=>
    have:=qh rfl;rw[if_pos rfl,zO xG xG,bnd_s,show(((stT n l a).length:Int) - 1)=(l.length:Int) by omega]
    rfl
   | false=>
    rw[qi rfl]
    rfl
  have qa:dX N u (m:Int) (u.rels.map (xBw T)) (wJ D) (List.replicate n (-1)) (stT n l a) (s:Int) b=qD (some o) λ(s4,s5,s6)=>some (false,0,s5,s6,true):=by
   unfold dX
   rw[qc];simp only;rw[o1]
  rcases o2 with ⟨s',tab,h1,rfl⟩ | ⟨r,h1,rfl,h2,h3⟩ | ⟨l',a',s',g1,g2,g3,g4,g5,rfl,g7⟩
  ·rw[h1]
   refine⟨?_,λt h=>by cases h⟩
   rw[wP (r:=FO m (.out s')) (by
    simp only[qa,thn_nx,bnd_s]
    rfl)]
  ·rw[h1]
   refine⟨?_,λt h=>by cases h⟩
   rw[wP (r:=FO m .stop) (by
    simp only[qa,thn_ret,bnd_s];rw[h3]
    rfl)]
  ·have qj:bJ T ((a':Int)::l'):=by
    intro x hx
    rcases Av.1 hx with rfl | hx
    ·omega
    ·exact g3 x hx
   have qg:B9 T ⟨(m:Int),((a':Int)::l').reverse⟩ m:=⟨rfl,hm.1,hm.2,by simp;omega,λx hx=>qj x (List.mem_reverse.1 hx)⟩;have hk:=qe _ qg;have qd:kF ((a':Int)::l').reverse=some ((a':Int)::l').reverse:=own_eq _ (by simp;omega);rw[g7]
   by_cases hc:acc ⟨(m:Int),((a':Int)::l').reverse⟩=true
   ·rw[if_pos hc]
    refine⟨?_,λt h=>by cases h;exact qg⟩
    rw[wP (r:=FO m (.found ((a':Int)::l'))) (by
     simp only[qa,thn_ret,bnd_s];rw[if_neg kS,if_neg kS]
     unfold fY
     rw[qd,bnd_s,bnd_s,hu.s];simp only[hk,bnd_s,hc,if_true]
     rfl)]
   ·rw[if_neg hc]
    obtain⟨q1,q2⟩:=ih l' (a'+1) s' true xG xG g3 xG g5 (λ_=>g1) (λh=>nomatch h);refine⟨?_,q2⟩
    rw[eF (s':=(stT n l' (a'+1),(s':Int),true)) (by
     simp only[qa,thn_ret,bnd_s];rw[if_neg kS,if_neg kS]
     unfold fY
     rw[qd,bnd_s,bnd_s,hu.s];have qk:acc ⟨(m:Int),((a':Int)::l').reverse⟩=false:=vV hc;simp only[hk,bnd_s,qk,Ah,if_false]
     rw[<- xVr (n:=n) g1,oBd])]
    exact q1
end
theorem xDk {N T m:Nat} {kind:Int} {u:A6} {acc:Op->Bool} (hs:lV u) (ht:lT u=true) (hu:TV T u) (hm:1<=m/\m<=3) (hN:13000<=N) (hkd:1<=kind/\kind<=10) (h1:∀ o N,B9 T o m->13<=N->zR N (T:Int) o kind=some (acc o)) (h2:∀ o N,B9 T o m->13<=N->bR N (T:Int) o kind=some (acc o)):∃ r,zK N u (m:Int) kind=some r/\zM N u (m:Int) kind=some r/\(r.2=0->B9 T r.1 m):=by
 have e0:zP (A6.mk u.size u.rels)=some (lT u):=lN u hs;have e1:bH u=some (lT u):=tW u hs;have hpw:=pP (T:=T) (k:=m) hu.t xG
 have hw:(decide ((1:Int)<=(m:Int)) && decide ((m:Int)<=3))=true:=by simp;omega
 have qa:(decide (1<=kind) && decide (kind<=10))=true:=by simp;omega
 have hf:lJ u (m:Int)=some 0:=by
  unfold lJ jJ
  rw[e0,ht,bnd_s,if_neg vK,eV,bnd_s,hw]
  rfl
 have ha:rK u (m:Int)=some 0:=by
  unfold rK dU
  rw[e1,ht,bnd_s,if_neg vK,dN,bnd_s,hw]
  rfl
 obtain⟨z,z1,z2⟩:=xXu (N:=N) hu hm xG
 unfold zK zM xGn
 rw[show A6.mk u.size u.rels=u from rfl,hf,ha,bnd_s,bnd_s,if_neg kS,if_neg kS,eV,dN,qa,bnd_s,bnd_s,bnd_s,if_neg vK,if_neg vK,z1,bnd_s]
 rcases z2 with ⟨d1,q,d2⟩ | ⟨d1,D,d2,d3,d4⟩
 ·rw[d1,if_pos rfl,d2,bnd_s]
  exact⟨_,rfl,rfl,λh=>by simp at h⟩
 ·rw[d1,if_neg vK,d2,d3,bnd_s,bnd_s]
  obtain⟨r,r1,r2⟩:=xIh (acc:=acc) hu hm d4 h1 (T ^ m) [] 0 N vK xG (λa h=>by simp at h) xG;obtain⟨q1,q2⟩:=xWy (n:=T ^ m) (acc:=acc) (kind:=kind) (tl:=T ^ m) (K:=6000) rfl hu hm d4 rfl hN (λo ho=>h2 o N ho xG) 6001 [] 0 0 false xG (by simp;omega) (λa h=>by simp at h) xG xG (λh=>nomatch h) (λ_=>rfl);rw[xXi xG] at q1 q2
  have qc:stT (T ^ m) [] 0=List.replicate (T ^ m) (-1):=by
   unfold stT
   rw[show T ^ m=(T ^ m - 1)+1 by omega,Dk]
   rfl
  rw[qc] at q1;have q1':=xGh q1 (show 6002<=N by omega);simp only;rw[if_neg kS,show((0:Nat):Int)=0 from rfl] at *;rw[q1',thn_ret]
  unfold fU
  rw[show List.reverse ([]:List Int)=[] from rfl] at r1;rw[r1,bnd_s];generalize xAx T 6000 (λl=>okT T u D l.reverse) (λl=>acc ⟨(m:Int),l.reverse⟩) (T ^ m) [] 0=f at r2 q2
  cases f with
  | out s'=>
   obtain⟨rfl,_⟩:=r2;exact⟨_,rfl,rfl,λh=>by simp [FO] at h⟩
  | stop=>
   obtain⟨g1,_⟩:=r2;simp only[g1];exact⟨_,rfl,rfl,λh=>by simp [FO] at h⟩
  | found t=>
   obtain⟨g1,_,g3⟩:=r2;simp only[g1,g3];exact⟨_,rfl,rfl,λ_=>q2 t rfl⟩
end
section
variable {N:Nat} {T:Nat}
theorem eH.dec {o:Option Bool} {P:Prop} (h:eH o P):o=Option.some (@decide P (Classical.propDecidable P)):=by
 rcases h with ⟨h,e⟩ | ⟨h,e⟩
 ·rw[e];congr 1;exact(@decide_eq_true P (Classical.propDecidable P) h).symm
 ·rw[e];congr 1;exact(@decide_eq_false P (Classical.propDecidable P) h).symm
theorem xXe {u:A6} (hs:lV u) (ht:lT u=true) (hu:TV T u) (hN:13000<=N):∃ r,zK N u 2 6=some r/\zM N u 2 6=some r/\(r.2=0->B9 T r.1 2):= xDk (m:=2) (acc:=λo=>@decide (K6 T 2 o) (Classical.propDecidable _)) hs ht hu xG hN xG (λo M ho hM=>(xEl hu.t ho hM).dec) (λo M ho hM=>(xMf hu.t ho hM).dec)
theorem xZk {u:A6} (hs:lV u) (ht:lT u=true) (hu:TV T u) (hN:13000<=N):∃ r,zK N u 3 7=some r/\zM N u 3 7=some r/\(r.2=0->B9 T r.1 3):= xDk (m:=3) (acc:=λo=>@decide (K7 T 3 o) (Classical.propDecidable _)) hs ht hu xG hN xG (λo M ho hM=>(xEr hu.t ho hM).dec) (λo M ho hM=>(xKm (N:=M) hu.t ho).dec)
theorem xTf {u:A6} (hu:TV T u) (hN:10<=N):∀ (d k M:Nat),k+d=T->d<M->
 (∃ v:Nat,v<T/\qU (σ:=Unit) (ρ:=(Out (Unit) (Int×Op×Int))) (λk4 s=>match s with | _=>xH (cK N u.size 1 (k4:Int)) λz1=>xH (cP N (A6.mk u.size u.rels) (Op.mk z1.arity z1.table)) λz2=>if z2 then some (.ret (.ret (1,(Op.mk z1.arity z1.table),0))) else some (.go ())) d k ()=some (.ret (.ret (1,nK T (v:Int),0)))/\lF (σ:=Int) (ρ:=Int×Op×Int) (λs1=>qD (σ:=Bool) (if (decide (s1<u.size)) then some (.nx true) else some (.nx false)) λs2=>if s2 then xH (bW N u.size 1 s1) λz3=>xH (bC N u (Op.mk z3.1.arity z3.1.table)) λz4=>if (z4==(-1)) then some (.ret (1,(Op.mk z3.1.arity z3.1.table),0)) else xH (ck (s1+1)) λz5=>some (.go z5) else some (.brk s1)) M (k:Int)=some (.ret (1,nK T (v:Int),0))) ∨
 (qU (σ:=Unit) (ρ:=(Out (Unit) (Int×Op×Int))) (λk4 s=>match s with | _=>xH (cK N u.size 1 (k4:Int)) λz1=>xH (cP N (A6.mk u.size u.rels) (Op.mk z1.arity z1.table)) λz2=>if z2 then some (.ret (.ret (1,(Op.mk z1.arity z1.table),0))) else some (.go ())) d k ()=some (.nx ())/\∃ e,lF (σ:=Int) (ρ:=Int×Op×Int) (λs1=>qD (σ:=Bool) (if (decide (s1<u.size)) then some (.nx true) else some (.nx false)) λs2=>if s2 then xH (bW N u.size 1 s1) λz3=>xH (bC N u (Op.mk z3.1.arity z3.1.table)) λz4=>if (z4==(-1)) then some (.ret (1,(Op.mk z3.1.arity z3.1.table),0)) else xH (ck (s1+1)) λz5=>some (.go z5) else some (.brk s1)) M (k:Int)=some (.nx e)):=by
 intro d
 induction d with
 | zero=>
  intro k M hk hM;obtain⟨M,rfl⟩:∃ M',M=M'+1:=⟨M - 1,xG⟩
  right
  refine⟨rfl,(k:Int),?_⟩
  have hf:decide ((k:Int)<u.size)=false:=by rw[Db,hu.s];omega
  rw[bU (s':=(k:Int)) (by simp only[hf,Ah,if_false,thn_nx])]
 | succ d ih=>
  intro k M hk hM;obtain⟨M,rfl⟩:∃ M',M=M'+1:=⟨M - 1,xG⟩;have qc:=hu.t;have hv:0<=(k:Int)/\(k:Int)<(T:Int):=xG;obtain⟨z,k1,k2,k3⟩:=xMj (N:=N) hN hu (xVh (T:=T) hv);have k1':bC N u (Op.mk (nK T (k:Int)).arity (nK T (k:Int)).table)=some z:=k1;have k3':cP N (A6.mk u.size u.rels) (Op.mk (nK T (k:Int)).arity (nK T (k:Int)).table)=some (u.rels.all (fS N T (nK T (k:Int)))):=k3
  have qd:cK N u.size 1 (k:Int)=some (nK T (k:Int)):=by rw[hu.s];exact xRy hN qc
  have qa:bW N u.size 1 (k:Int)=some (nK T (k:Int),0):=by rw[hu.s];exact xRg hN qc hv
  have hf:decide ((k:Int)<u.size)=true:=by rw[Bj,hu.s];omega
  by_cases h:u.rels.all (fS N T (nK T (k:Int)))=true
  ·left
   refine⟨k,xG,lK (by
    simp only[qd,bnd_s,k3',h,if_true]),wP (by
    simp only[hf,if_true,thn_nx,qa,bnd_s,k1',k2,h])⟩
  ·have h':u.rels.all (fS N T (nK T (k:Int)))=false:=vV h
   have g1:(λ(k4:Nat) (s:Unit)=>match s with | _=>xH (cK N u.size 1 (k4:Int)) λz1=>xH (cP N (A6.mk u.size u.rels) (Op.mk z1.arity z1.table)) λz2=>if z2 then some (Ctl.ret (ρ:=Out (Unit) (Int×Op×Int)) (.ret (1,(Op.mk z1.arity z1.table),0))) else some (.go ())) k ()=some (.go ()):=by
    simp only[qd,bnd_s,k3',h',Ah,if_false]
   have qe:ck ((k:Int)+1)=some ((k:Int)+1):=zO xG xG
   rcases ih (k+1) M xG xG with ⟨v,v1,v2,v3⟩ | ⟨v2,e,v3⟩
   ·left
    refine⟨v,v1,by rw[zQ g1];exact v2,?_⟩
    rw[eF (s':=((k+1:Nat):Int)) (by
     simp only[hf,if_true,thn_nx,qa,bnd_s,k1',k2,h',Ah,if_false,qe]
     rfl)]
    exact v3
   ·right
    refine⟨by rw[zQ g1];exact v2,e,?_⟩
    rw[eF (s':=((k+1:Nat):Int)) (by
     simp only[hf,if_true,thn_nx,qa,bnd_s,k1',k2,h',Ah,if_false,qe]
     rfl)]
    exact v3
theorem xOt {ρ:Type}:∀ (l:List Rel) (k:Nat) (b:Bool),oM (σ:=Bool) (ρ:=ρ) (λk1 (x1:Rel) s1=>qD (σ:=Bool) (if s1 then some (.nx (decide (0<(x1.tuples.length:Int)))) else some (.nx false)) λs2=>some (.go s2)) l k b=some (.nx (b && !(l.any λr=>(r.tuples.length:Int)==0)))
 | [],k,b=>by simp [oM]
 | r::l,k,b=>by
  have e:decide (0<(r.tuples.length:Int)) = !((r.tuples.length:Int)==0):=by
   rw[Bool.eq_iff_iff,Bj,Bool.not_eq_true',Ds]
   omega
  rw[vS (s':=b && !((r.tuples.length:Int)==0)) (by
   cases b
   ·rfl
   ·simp only[if_true,e,thn_nx,Dh]),xOt l,Ea,Bool.not_or,Bool.and_assoc]
def oGc (T:Nat) (w:Int) (f:Op):Prop:=(w=1/\∃ v:Nat,v<T/\f=nK T (v:Int))∨(w=2/\B9 T f 2)∨(w=3/\B9 T f 3)∨w=4
theorem xUd {u:A6} (hs:lV u) (ht:lT u=true) (hu:TV T u) (hN:13000<=N):∃ r,nT N u=some r/\pS N u=some r/\(r.2.2=0->oGc T r.1 r.2.1):=by
 have e0:zP (A6.mk u.size u.rels)=some (lT u):=lN u hs;have qe:=hu.t;obtain⟨f,f1,f2,f3⟩:=xXe (N:=N) hs ht hu hN;obtain⟨g,g1,g2,g3⟩:=xZk (N:=N) hs ht hu hN
 have qa:∃ r:Int×Op×Int,(xH (zK N (A6.mk u.size u.rels) 2 6) λz1=>if (z1.2==0) then some (2,(Op.mk z1.1.arity z1.1.table),0) else xH (zK N (A6.mk u.size u.rels) 3 7) λz2=>if (z2.2==0) then some (3,(Op.mk z2.1.arity z2.1.table),0) else qD (σ:=Bool) (xH (gQ u.size) λz3=>if z3 then xH (vU u.rels (λa0=>lQ N a0 (A6.mk u.size u.rels))) λz4=>some (.nx (!z4)) else some (.nx false)) λs1=>if s1 then xH (iO N u.size) λz5=>some (4,(Op.mk z5.arity z5.table),0) else some (0,(Op.mk 0 ([])),6))=some r ∧
  (xH (zM N u 2 6) λz6=>if (z6.2==0) then some ((2:Int),(Op.mk z6.1.arity z6.1.table),(0:Int)) else xH (zM N u 3 7) λz7=>if (z7.2==0) then some (3,(Op.mk z7.1.arity z7.1.table),0) else xH (fP u.size) λz8=>if (!z8) then some (0,(Op.mk 0 ([])),6) else qD (σ:=Unit) (oM (λk1 (x1:Rel) s=>match s with | _=>xH (gM N u.size x1) λz9=>if (!z9) then some (.ret (0,(Op.mk 0 ([])),6)) else some (.go ())) u.rels 0 ()) λ_=>xH (fX N u.size) λz10=>some (4,(Op.mk z10.arity z10.table),0))=some r/\(r.2.2=0->oGc T r.1 r.2.1):=by
  rw[show A6.mk u.size u.rels=u from rfl,f1,f2,bnd_s,bnd_s]
  by_cases hf:f.2=0
  ·rw[if_pos (by rw[hf];rfl),if_pos (by rw[hf];rfl)]
   exact⟨_,rfl,rfl,λ_=>.inr (.inl ⟨rfl,f3 hf⟩)⟩
  ·rw[if_neg (by rw[De];exact hf),if_neg (by rw[De];exact hf),g1,g2,bnd_s,bnd_s]
   by_cases hg:g.2=0
   ·rw[if_pos (by rw[hg];rfl),if_pos (by rw[hg];rfl)]
    exact⟨_,rfl,rfl,λ_=>.inr (.inr (.inl ⟨rfl,g3 hg⟩))⟩
   ·rw[if_neg (by rw[De];exact hg),if_neg (by rw[De];exact hg),(nD u.size).1,(nD u.size).2,bnd_s,bnd_s]
    by_cases hp:(u.size==2 || u.size==3)=true
    ·rw[hp,if_pos rfl,Br,if_neg vK]
     have qc:∀ r∈u.rels,fQ N u.size r=some (yH N T r)/\gM N u.size r=some (yH N T r):=λr hr=>by
      rw[hu.s];exact xMo hu hr xG
     rw[sZ u.rels (λr=>!yH N T r) _ (λr hr=>by
      unfold lQ
      rw[show Rel.mk r.arity r.tuples=r from rfl]
      simp only[(qc r hr).1,bnd_s]),bnd_s,thn_nx]
     rw[cR (ρ:=Int×Op×Int) (λ_ r=>if (λr=>!yH N T r) r then some ((0:Int),Op.mk 0 [],(6:Int)) else none) (λj r hj=>by
      simp only[(qc r (Af hj)).2,bnd_s]
      by_cases hq:(!yH N T r)=true
      ·rw[if_pos hq,if_pos hq];rfl
      ·rw[if_neg hq,if_neg hq];rfl),sY]
     cases qd:u.rels.any λr=>!yH N T r
     ·rw[Co,if_pos rfl,if_neg vK,hu.s,xSp qe xG,xRo qe xG]
      exact⟨_,rfl,rfl,λ_=>.inr (.inr (.inr rfl))⟩
     ·rw[Br,if_neg vK,if_pos rfl]
      exact⟨_,rfl,rfl,λh=>by simp at h⟩
    ·have qf:(u.size==2 || u.size==3)=false:=vV hp
     rw[qf,if_neg vK,thn_nx,if_neg vK,Co,if_pos rfl];exact⟨_,rfl,rfl,λh=>by simp at h⟩
 obtain⟨r,t1,t2,t3⟩:=qa
 unfold nT pS
 rw[e0,ht,bnd_s,if_neg vK];rw[sZ u.rels (λr=>(r.tuples.length:Int)==0) (λa0=>nY a0) (λr _=>rfl),bnd_s,xOt u.rels 0 true,thn_nx,Dh]
 cases qd:u.rels.any λr=>(r.tuples.length:Int)==0
 ·rw[Co,if_pos rfl]
  have qg:u.size.toNat=T:=by rw[hu.s,Ad]
  rw[qg]
  rcases xTf (N:=N) hu xG T 0 N xG xG with ⟨v,v1,v2,v3⟩ | ⟨v2,e,v3⟩
  ·rw[v2]
   rw[show((0:Nat):Int)=0 from rfl] at v3;rw[v3];exact⟨_,rfl,rfl,λ_=>.inl ⟨rfl,v,v1,rfl⟩⟩
  ·rw[v2]
   rw[show((0:Nat):Int)=0 from rfl] at v3;rw[v3,thn_nx,thn_nx,thn_nx];exact⟨r,t1,t2,t3⟩
 ·rw[Br,if_neg vK,thn_nx]
  obtain⟨M,rfl⟩:∃ M,N=M+1:=⟨N - 1,xG⟩;rw[bU (s':=0) (by split<;>rfl),thn_nx];exact⟨r,t1,t2,t3⟩
theorem xNn {t:A6} {x:A7} (ht:lV t) (hN:13000<=N):∃ r,pD N t x=some r/\pM N t x=some r/\VB r.2.1:=by
 obtain⟨i1,i2⟩:=xGc (t:=t) (x:=x) ht
 unfold pD pM
 rw[show A6.mk t.size t.rels=t from rfl,show A7.mk x.vars x.cons=x from rfl,i1,i2,bnd_s,bnd_s]
 by_cases hi:sO t x=true
 ·have qa:lT t=true:=by
   have:=hi;unfold sO at this;simp only[Be] at this;exact this.1
  have hu:=xMl ht qa;generalize hTe:t.size.toNat=T at hu;obtain⟨r,s1,s2,s3⟩:=xUd (N:=N) ht qa hu hN;rw[hi,Br,if_neg vK,if_neg vK,s1,s2,bnd_s,bnd_s]
  by_cases h0:r.2.2=0
  ·have e0:(r.2.2 != 0)=false:=by rw[h0];rfl
   rw[e0,if_neg vK,if_neg vK]
   unfold wN
   rw[show A6.mk t.size t.rels=t from rfl,show A7.mk x.vars x.cons=x from rfl];have hT4:=hu.t
   rcases s3 h0 with ⟨w,v,v1,v2⟩ | ⟨w,ho⟩ | ⟨w,ho⟩ | w
   ·obtain⟨q,q1,q2,_,q3⟩:=xKe (N:=N) (x:=x) (v:=(v:Int)) xG ht hi hu.s xG
    have qc:ix (List.replicate T (v:Int)) 0=some (v:Int):=vD (i:=0) (by rw[Dm,if_pos xG]);rw[w,v2]
    unfold nK
    simp only[show((1:Int)==1)=true from rfl,if_true,qc,bnd_s,q1,q2,thn_nx]
    split
    ·exact⟨_,rfl,rfl,VB.nil⟩
    ·exact⟨_,rfl,rfl,q3.1,Bi _,Bi _,Bi _⟩
   ·obtain⟨q,q1,q2,q3⟩:=oBf (N:=N) ht hi hu ho xG
    rw[w,show Op.mk r.2.1.arity r.2.1.table=r.2.1 from rfl];simp only[show((2:Int)==1)=false from rfl,show((2:Int)==2)=true from rfl,Ah,if_false,if_true,bnd_s,show Op.mk r.2.1.arity r.2.1.table=r.2.1 from rfl,q1,q2,thn_nx]
    split
    ·exact⟨_,rfl,rfl,VB.nil⟩
    ·exact⟨_,rfl,rfl,q3.1,q3.2.1,Bi _,Bi _⟩
   ·obtain⟨q,q1,q2,q3⟩:=oCj (N:=N) ht hi hu ho xG
    rw[w,show Op.mk r.2.1.arity r.2.1.table=r.2.1 from rfl];simp only[show((3:Int)==1)=false from rfl,show((3:Int)==2)=false from rfl,show((3:Int)==3)=true from rfl,Ah,if_false,if_true,bnd_s,show Op.mk r.2.1.arity r.2.1.table=r.2.1 from rfl,q1,q2,thn_nx]
    split
    ·exact⟨_,rfl,rfl,VB.nil⟩
    ·exact⟨_,rfl,rfl,q3.1,q3.2.1,q3.2.2.1,Bi _⟩
   ·obtain⟨q,q1,q2,q3⟩:=xIt (N:=N) ht hi hu xG
    rw[w];simp only[show((4:Int)==1)=false from rfl,show((4:Int)==2)=false from rfl,show((4:Int)==3)=false from rfl,Ah,if_false,bnd_s,q1,q2,thn_nx]
    split
    ·exact⟨_,rfl,rfl,VB.nil⟩
    ·exact⟨_,rfl,rfl,q3.1,Bi _,Bi _,q3.2.2.2⟩
  ·have e0:(r.2.2 != 0)=true:=by rw[bne_iff_ne];exact h0
   rw[e0,if_pos rfl,if_pos rfl];exact⟨_,rfl,rfl,VB.nil⟩
 ·have qd:sO t x=false:=vV hi
  rw[qd,Co,if_pos rfl,if_pos rfl];exact⟨_,rfl,rfl,VB.nil⟩
theorem xPj {h:B6} (ht:lV h.template) (hN:13000<=N):∃ r,iP N h=some r/\dY N h=some r/\r.1.length<=4/\∀ v∈r.1,VB v:=by
 have e0:zP (A6.mk h.template.size h.template.rels)=some (lT h.template):=lN h.template ht;have e1:bH h.template=some (lT h.template):=tW h.template ht
 have tw:bY (iP N h) (dY N h) (λa b=>a=b/\a.1.length<=4/\∀ v∈a.1,VB v):=by
  unfold iP dY
  rw[e0,e1];simp only[bnd_s,eV,dN];refine bY.thn (λa b=>a=b/\(a=false->h.jobs.length<=4)) (λ_ _=>False) ?_ (λa b qa=>?_) (λ_ _ h=>h.elim)
  ·cases lT h.template
   ·exact bY.s ⟨rfl,λh=>nomatch h⟩
   ·rw[Br,if_neg vK]
    by_cases hj:(decide ((1:Int)<=(h.jobs.length:Int)) && decide ((h.jobs.length:Int)<=4))=true
    ·rw[hj,Br,if_neg vK]
     rw[Be,Bj,Bj] at hj;exact bY.s ⟨rfl,λ_=>xG⟩
    ·have qc:(decide ((1:Int)<=(h.jobs.length:Int)) && decide ((h.jobs.length:Int)<=4))=false:=vV hj
     rw[qc,Co,if_pos rfl];exact bY.s ⟨rfl,λh=>nomatch h⟩
  ·obtain⟨rfl,hj⟩:=qa
   cases a with
   | true=>exact bY.s ⟨rfl,Bi _,λ_ h=>nomatch h⟩
   | false=>
    have hj4:=hj rfl;rw[if_neg vK,if_neg vK];refine bY.thn (λa b=>a=b/\a.length<=4/\∀ v∈a,VB v) (λa b=>a=b/\a.1.length<=4/\∀ v∈a.1,VB v) (bY.mono (bY.forL (λk a b=>a=b/\a.length=k/\∀ v∈a,VB v) (λa b=>a=b/\a.1.length<=4/\∀ v∈a.1,VB v) ⟨rfl,rfl,λ_ h=>nomatch h⟩ (λk x a b hk hR=>?_)) (λa b qa=>?_)) (λa b qa=>by obtain⟨rfl,h1,h2⟩:=qa;exact bY.s ⟨rfl,h1,h2⟩) (λa b h=>h)
    ·obtain⟨rfl,qd,qe⟩:=hR
     obtain⟨r,r1,r2,r3⟩:=xNn (N:=N) (x:=x) ht hN;have hkl:=(Ac.1 hk).1;rw[show A6.mk h.template.size h.template.rels=h.template from rfl,show A7.mk x.vars x.cons=x from rfl,r1,r2,bnd_s]
     by_cases h0:(r.2.2 != 0)=true
     ·rw[if_pos h0];exact bY.s ⟨rfl,Bi _,λ_ h=>nomatch h⟩
     ·rw[if_neg h0,aC (by simp only[Am];omega),bnd_s]
      exact bY.s ⟨rfl,by simp [qd],λv hv=>(Aj.1 hv).elim (qe v) (λh=>by rw[Ay] at h;rw[h];exact r3)⟩
    ·cases a<;>cases b<;>first | exact qa | exact⟨qa.1,by have:=qa.2.1;omega,qa.2.2⟩
 obtain⟨a,b,t1,t2,rfl,t3⟩:=tw;exact⟨a,t1,t2,t3⟩
end
section
variable {α:Type}
def szG (f:α->Int->Option Int) (x0:List α) (x1:Int):Option Int:= xH (ck (x1 - (x0.length:Int))) λz1=>if (decide (z1<0)) then some ((-1)) else qD (σ:=Int) (oM (λk1 (x2:α) s32=>xH (f x2 s32) λz2=>if (decide (z2<0)) then some (.ret ((-1))) else some (.go z2)) x0 0 z1) λs1=>some s1
def oGl (f:Int->Option Int) (n:Int):Option Int:= xH (f n) λz1=>if (decide (z1<0)) then some ((-1)) else some z1
def nN (l:List α):Prop:=(l.length:Int)<=9223372036854775807
def xHm (f:α->Int->Option Int) (L Q:α->Prop):Prop:=∀ x n,L x->0<=n->n<=1048576->∃ z,f x n=some z/\(z<0∨(0<=z/\z<=n/\Q x))
theorem xPg {f:α->Int->Option Int} {L Q:α->Prop} (h:xHm f L Q):xHm (szG f) (λl=>nN l/\∀ x∈l,L x) (λl=>l.length<=1048576/\∀ x∈l,Q x):=by
 intro l n hL h0 h1;obtain⟨hl,hx⟩:=hL
 unfold nN at hl
 unfold szG
 rw[zO xG xG,bnd_s]
 by_cases hn:n - (l.length:Int)<0
 ·rw[if_pos (decide_eq_true hn)]
  exact⟨_,rfl,.inl kS⟩
 ·rw[if_neg (by rw[Bj];exact hn)]
  have key:∀ (r:List α) (k:Nat) (s:Int),(∀ x∈r,L x)->0<=s->s<=1048576->(oM (σ:=Int) (ρ:=Int) (λk1 (x1:α) s32=>xH (f x1 s32) λz6=>if (decide (z6<0)) then some (.ret ((-1))) else some (.go z6)) r k s=some (.ret (-1)))∨∃ z,oM (σ:=Int) (ρ:=Int) (λk1 (x1:α) s32=>xH (f x1 s32) λz6=>if (decide (z6<0)) then some (.ret ((-1))) else some (.go z6)) r k s=some (.nx z)/\0<=z/\z<=s/\∀ x∈r,Q x:=by
   intro r
   induction r with
   | nil=>intro k s _ hs _;exact .inr ⟨s,rfl,hs,Int.le_refl _,vK⟩
   | cons x r ih=>
    intro k s hr hs qa;obtain⟨z,z1,z2⟩:=h x s (hr x (Bg ..)) hs qa
    by_cases hz:z<0
    ·left
     rw[fE (r:=-1) (by rw[z1,bnd_s,if_pos (decide_eq_true hz)])]
    ·obtain⟨z3,z4,z5⟩:0<=z/\z<=s/\Q x:=by
      rcases z2 with h | h
      ·exact absurd h hz
      ·exact h
     rw[vS (s':=z) (by rw[z1,bnd_s,if_neg (by rw[Bj];exact hz)])]
     rcases ih (k+1) z (λy hy=>hr y (At _ hy)) z3 xG with g | ⟨z',g1,g2,g3,g4⟩
     ·exact .inl g
     ·refine .inr ⟨z',g1,g2,xG,λy hy=>?_⟩
      rcases Av.1 hy with rfl | hy
      ·exact z5
      ·exact g4 y hy
  rcases key l 0 (n - (l.length:Int)) hx xG xG with g | ⟨z,g1,g2,g3,g4⟩
  ·rw[g,thn_ret]
   exact⟨_,rfl,.inl kS⟩
  ·rw[g1,thn_nx]
   exact⟨_,rfl,.inr ⟨g2,xG,xG,g4⟩⟩
theorem xJq {β:Type} {f:β->Int->Option Int} {L Q:β->Prop} (h:xHm f L Q) (g:α->β):xHm (λx n=>oGl (f (g x)) n) (λx=>L (g x)) (λx=>Q (g x)):=by
 intro x n hL h0 h1;obtain⟨z,z1,z2⟩:=h (g x) n hL h0 h1;simp only[oGl,z1,bnd_s]
 by_cases hz:z<0
 ·rw[if_pos (decide_eq_true hz)];exact⟨_,rfl,.inl kS⟩
 ·rw[if_neg (by rw[Bj];exact hz)];exact⟨_,rfl,z2⟩
theorem oAo:xHm laws_szInt64S nN (λl=>l.length<=1048576):=by
 intro l n hl h0 h1
 unfold nN at hl
 unfold laws_szInt64S
 rw[zO xG xG,bnd_s]
 by_cases hn:n - (l.length:Int)<0
 ·rw[if_pos (decide_eq_true hn)];exact⟨_,rfl,.inl kS⟩
 ·rw[if_neg (by rw[Bj];exact hn)];exact⟨_,rfl,.inr ⟨xG,xG,xG⟩⟩
theorem oFp:xHm laws_szInt64SS (λl:List (List Int)=>nN l/\∀ x∈l,nN x) (λl=>l.length<=1048576/\∀ x∈l,x.length<=1048576):=xPg oAo
theorem xYz:xHm laws_szRel (λr:Rel=>nN r.tuples/\∀ x∈r.tuples,nN x) (λr=>r.tuples.length<=1048576/\∀ x∈r.tuples,x.length<=1048576):=xJq oFp (λr:Rel=>r.tuples)
theorem xWq:xHm laws_szRelS (λl:List Rel=>nN l/\∀ r∈l,nN r.tuples/\∀ x∈r.tuples,nN x) (λl=>l.length<=1048576/\∀ r∈l,r.tuples.length<=1048576/\∀ x∈r.tuples,x.length<=1048576):=xPg xYz
theorem xNo:xHm laws_szTemplate (λt:A6=>nN t.rels/\∀ r∈t.rels,nN r.tuples/\∀ x∈r.tuples,nN x) (λt=>t.rels.length<=1048576/\∀ r∈t.rels,r.tuples.length<=1048576/\∀ x∈r.tuples,x.length<=1048576):=xJq xWq (λt:A6=>t.rels)
theorem xZg:xHm laws_szCon (λc:Con=>nN c.scope) (λc=>c.scope.length<=1048576):=xJq oAo (λc:Con=>c.scope)
theorem xXm:xHm laws_szConS (λl:List Con=>nN l/\∀ c∈l,nN c.scope) (λl=>l.length<=1048576/\∀ c∈l,c.scope.length<=1048576):=xPg xZg
theorem xNd:xHm laws_szInstance (λx:A7=>nN x.cons/\∀ c∈x.cons,nN c.scope) (λx=>x.cons.length<=1048576/\∀ c∈x.cons,c.scope.length<=1048576):=xJq xXm (λx:A7=>x.cons)
theorem xKl:xHm laws_szInstanceS (λl:List A7=>nN l/\∀ x∈l,nN x.cons/\∀ c∈x.cons,nN c.scope) (λl=>l.length<=1048576/\∀ x∈l,x.cons.length<=1048576/\∀ c∈x.cons,c.scope.length<=1048576):=xPg xNd
def toG (z0:α) (f:α->Option α) (x0:List α):Option (List α):= xH (nJ z0 (x0.length:Int)) λz1=>qD (σ:=List α) (oM (λk1 (x1:α) s1=>xH (f x1) λz2=>xH (ix s1 (k1:Int)) λz3=>some (.go (s1.set ((k1:Int)).toNat z2))) x0 0 z1) λs2=>some s2
theorem xJy {z0:α} {f:α->Option α} {l:List α} (hl:l.length<=1048576) (h:∀ x∈l,f x=some x):toG z0 f l=some l:=by
 unfold toG
 have hz:nJ z0 (l.length:Int)=some (List.replicate l.length z0):=by
  unfold nJ
  rw[if_pos ⟨xG,xG⟩,Ad]
 rw[hz,bnd_s]
 have key:∀ (r pre:List α),(∀ x∈r,f x=some x)->oM (σ:=List α) (ρ:=List α) (λk1 (x1:α) s1=>xH (f x1) λz1=>xH (ix s1 (k1:Int)) λz2=>some (.go (s1.set ((k1:Int)).toNat z1))) r pre.length (pre++List.replicate r.length z0)=some (.nx (pre++r)):=by
  intro r
  induction r with
  | nil=>intro pre _;simp [oM]
  | cons x r ih=>
   intro pre hr
   have hx:(pre++List.replicate (x::r).length z0)[pre.length]?=some z0:=by
    rw[Bb (Az _)];simp
   have hs:(pre++List.replicate (x::r).length z0).set pre.length x=(pre++[x])++List.replicate r.length z0:=by
    rw[Ey _ _ (Az _)]
    simp [Dk]
   rw[vS (s':=(pre++[x])++List.replicate r.length z0) (by rw[hr x (Bg ..),bnd_s,vD hx,bnd_s,Ad,hs])];have:=ih (pre++[x]) (λy hy=>hr y (At _ hy));rw[Ar,Am] at this;rw[this]
   simp
 have:=key l [] h;rw[Bh,Bp] at this;rw[this,thn_nx]
 rfl
theorem oBq {l:List Int} (hl:l.length<=1048576):laws_toInt64S l=some l:=xJy (z0:=0) (f:=some) hl (λ_ _=>rfl)
theorem oEj {l:List (List Int)} (h:l.length<=1048576/\∀ x∈l,x.length<=1048576):laws_toInt64SS l=some l:=xJy (z0:=[]) (f:=laws_toInt64S) h.1 (λx hx=>oBq (h.2 x hx))
theorem oBb {r:Rel} (h:r.tuples.length<=1048576/\∀ x∈r.tuples,x.length<=1048576):laws_toRel r=some r:=by unfold laws_toRel;rw[oEj h,bnd_s]
theorem xWt {l:List Rel} (h:l.length<=1048576/\∀ r∈l,r.tuples.length<=1048576/\∀ x∈r.tuples,x.length<=1048576):laws_toRelS l=some l:=xJy (z0:=Rel.mk 0 []) (f:=laws_toRel) h.1 (λx hx=>oBb (h.2 x hx))
theorem oBs {c:Con} (h:c.scope.length<=1048576):laws_toCon c=some c:=by unfold laws_toCon;rw[oBq h,bnd_s]
theorem xWj {l:List Con} (h:l.length<=1048576/\∀ c∈l,c.scope.length<=1048576):laws_toConS l=some l:=xJy (z0:=Con.mk 0 []) (f:=laws_toCon) h.1 (λx hx=>oBs (h.2 x hx))
theorem xNt {x:A7} (h:x.cons.length<=1048576/\∀ c∈x.cons,c.scope.length<=1048576):laws_toInstance x=some x:=by unfold laws_toInstance;rw[xWj h,bnd_s]
theorem xLi {l:List A7} (h:l.length<=1048576/\∀ x∈l,x.cons.length<=1048576/\∀ c∈x.cons,c.scope.length<=1048576):laws_toInstanceS l=some l:=xJy (z0:=A7.mk 0 []) (f:=laws_toInstance) h.1 (λx hx=>xNt (h.2 x hx))
theorem xMu {t:A6} (h:t.rels.length<=1048576/\∀ r∈t.rels,r.tuples.length<=1048576/\∀ x∈r.tuples,x.length<=1048576):laws_toTemplate t=some t:=by unfold laws_toTemplate;rw[xWt h,bnd_s]
def eqG (f:α->α->Option Bool) (x0 x1:List α):Option Bool:= if ((x0.length:Int) != (x1.length:Int)) then some false else qD (σ:=Unit) (oM (λk1 (x2:α) s=>match s with | _=>xH (ix x1 (k1:Int)) λz1=>xH (f x2 z1) λz2=>if (!z2) then some (.ret false) else some (.go ())) x0 0 ()) λ_=>some true
theorem xEf {f:α->α->Option Bool} (h:∀ x,f x x=some true) (l:List α):eqG f l l=some true:=by
 unfold eqG
 rw[if_neg vK,tF l 0 (λj x hx=>by
  rw[Bn]
  simp only[vD hx,bnd_s,h x,Br,Ah,if_false]),thn_nx]
theorem xTv (l:List Int):laws_eqInt64S l l=some true:=by
 unfold laws_eqInt64S
 rw[if_neg vK,tF l 0 (λj x hx=>by
  rw[Bn]
  simp only[vD hx,bnd_s,Ee,Ah,if_false]),thn_nx]
theorem oDq (l:List (List Int)):laws_eqInt64SS l l=some true:=xEf (f:=laws_eqInt64S) xTv l
theorem oCf (r:Rel):laws_eqRel r r=some true:=by unfold laws_eqRel;rw[if_neg vK,oDq,bnd_s];rfl
theorem xXx (l:List Rel):laws_eqRelS l l=some true:=xEf (f:=laws_eqRel) oCf l
theorem xMx (t:A6):laws_eqTemplate t t=some true:=by unfold laws_eqTemplate;rw[if_neg vK,xXx,bnd_s];rfl
theorem xYr (c:Con):laws_eqCon c c=some true:=by unfold laws_eqCon;rw[if_neg vK,xTv,bnd_s];rfl
theorem xXb (l:List Con):laws_eqConS l l=some true:=xEf (f:=laws_eqCon) xYr l
theorem xNj (x:A7):laws_eqInstance x x=some true:=by unfold laws_eqInstance;rw[if_neg vK,xXb,bnd_s];rfl
theorem xKd (l:List A7):laws_eqInstanceS l l=some true:=xEf (f:=laws_eqInstance) xNj l
theorem xUu (x:B6):laws_eqHouse x x=some true:=by
 unfold laws_eqHouse
 rw[xMx,bnd_s,xKd,bnd_s,if_neg vK,if_neg vK,if_neg vK]
structure InH (x:B6):Prop where
  r:nN x.template.rels/\∀ r∈x.template.rels,nN r.tuples/\∀ t∈r.tuples,nN t
  j:nN x.jobs/\∀ y∈x.jobs,nN y.cons/\∀ c∈y.cons,nN c.scope
theorem xUc {x:B6} (h:InH x):∃ z,laws_szHouse x 1048576=some z/\(z<0∨((x.template.rels.length<=1048576/\∀ r∈x.template.rels,r.tuples.length<=1048576/\∀ t∈r.tuples,t.length<=1048576)/\(x.jobs.length<=1048576/\∀ y∈x.jobs,y.cons.length<=1048576/\∀ c∈y.cons,c.scope.length<=1048576))):=by
 obtain⟨z,z1,z2⟩:=xNo x.template 1048576 h.r xG xG;have z1':laws_szTemplate (A6.mk x.template.size x.template.rels) 1048576=some z:=z1
 unfold laws_szHouse
 rw[z1',bnd_s]
 by_cases hz:z<0
 ·rw[if_pos (decide_eq_true hz)];exact⟨_,rfl,.inl kS⟩
 ·rw[if_neg (by rw[Bj];exact hz)]
  obtain⟨z3,z4,z5⟩:0<=z/\z<=1048576/\_:=by
   rcases z2 with h | h
   ·exact absurd h hz
   ·exact h
  obtain⟨y,y1,y2⟩:=xKl x.jobs z h.j z3 z4;have y1':laws_szInstanceS x.jobs z=some y:=y1;rw[y1',bnd_s]
  by_cases hy:y<0
  ·rw[if_pos (decide_eq_true hy)];exact⟨_,rfl,.inl kS⟩
  ·rw[if_neg (by rw[Bj];exact hy)]
   rcases y2 with g | ⟨_,_,g⟩
   ·exact absurd g hy
   ·exact⟨_,rfl,.inr ⟨z5,g⟩⟩
end
section
section
variable {α:Type} {c:α->Nat} {m:Int->α->α}
def dW (c:α->Nat):List α->Nat | []=>0 | x::r=>c x+dW c r
def mkV (c:α->Nat) (m:Int->α->α):Int->List α->List α | _,[]=>[] | k,x::r=>m k x::mkV c m (k+c x) r
theorem xBb {B:Nat}:∀ {l:List α},(∀ x∈l,c x<=B)->dW c l<=l.length*B
 | [],_=>Bi _
 | x::r,h=>by
  have h1:=h x (Bg ..);have h2:=xBb (l:=r) (λy hy=>h y (At _ hy));rw[Ao,Ct]
  unfold dW
  omega
theorem uV {F:Nat->α->Int×List α->Option (Ctl (Int×List α) (Int×List α))} (hF:∀ (j:Nat) (x:α) (k:Int) (l:List α) (z:α),0<=k->k+c z<=4611686018427387904->l[j]?=some z->F j x (k,l)=some (.go (k+c z,l.set j (m k z)))) (l:List α) (k:Int) (h0:0<=k) (h1:k+dW c l<=4611686018427387904) :
 qD (oM F l 0 (k,l)) (λ(a,b)=>some (a,b))=some (k+dW c l,mkV c m k l):=by
 have key:∀ (r pre:List α) (k:Int),0<=k->k+dW c r<=4611686018427387904->oM F r pre.length (k,pre++r)=some (.nx (k+dW c r,pre++mkV c m k r)):=by
  intro r
  induction r with
  | nil=>intro pre k _ _;simp [oM,dW,mkV]
  | cons x r ih=>
   intro pre k h0 h1
   unfold dW at h1
   have hx:(pre++x::r)[pre.length]?=some x:=by rw[Bb (Az _)];simp
   rw[vS (s':=(k+c x,(pre++[m k x])++r)) (by rw[hF _ x k _ x h0 xG hx,Ey _ _ (Az _)];simp)];have:=ih (pre++[m k x]) (k+c x) xG xG;rw[Ar,Am] at this;rw[this]
   simp [dW,mkV,Int.add_assoc]
 have:=key l [] k h0 h1;rw[Bh,Bp] at this;rw[this,thn_nx,Bp]
theorem xJs {G:Nat->α->Int->Option (Ctl Int Int)} (hG:∀ (j:Nat) (k:Int) (z:α),0<=k->k+c z<=4611686018427387904->G j (m k z) k=some (.go (k+c z))) (l:List α) (k:Int) (h0:0<=k) (h1:k+dW c l<=4611686018427387904) :
 qD (oM G (mkV c m k l) 0 k) (λs=>some s)=some (k+dW c l):=by
 have key:∀ (r:List α) (j:Nat) (k:Int),0<=k->k+dW c r<=4611686018427387904->oM G (mkV c m k r) j k=some (.nx (k+dW c r)):=by
  intro r
  induction r with
  | nil=>intro j k _ _;simp [oM,dW,mkV]
  | cons x r ih=>
   intro j k h0 h1
   unfold dW at h1
   unfold mkV
   rw[vS (hG j k x h0 xG),ih _ _ xG xG,dW]
   simp [Int.add_assoc]
 rw[key l 0 k h0 h1,thn_nx]
end
theorem nS {k:Int} (h0:0<=k) (h1:k+1<=4611686018427387904):ck (k+1)=some (k+1):=zO xG xG
def cIq:Int->Nat:=λ_=>1
def mIq:Int->Int->Int:=λk _=>k
theorem xVf {l:List Int} {k:Int} (h0:0<=k) (h1:k+dW cIq l<=4611686018427387904):laws_markInt64S l k=some (k+dW cIq l,mkV cIq mIq k l):= uV (m:=mIq) (λj x k l z h0 h1 h=>by simp only[vD h,nS h0 h1,bnd_s,Ad];rfl) l k h0 h1
theorem oGo {l:List Int} {k:Int} (h0:0<=k) (h1:k+dW cIq l<=4611686018427387904):laws_heldInt64S (mkV cIq mIq k l) k=some (k+dW cIq l):= xJs (m:=mIq) (λj k z h0 h1=>by
 simp only[mIq,Ee,Ah,if_false,nS h0 h1,bnd_s];rfl) l k h0 h1
theorem xMm:∀ l:List Int,dW cIq l=l.length
 | []=>rfl
 | _::r=>by rw[dW,xMm r,Ao];unfold cIq;omega
theorem oIs {l:List (List Int)} {k:Int} (h0:0<=k) (h1:k+dW (dW cIq) l<=4611686018427387904):laws_markInt64SS l k=some (k+dW (dW cIq) l,mkV (dW cIq) (mkV cIq mIq) k l):= uV (m:=mkV cIq mIq) (λj x k l z h0 h1 h=>by simp only[vD h,xVf h0 h1,bnd_s,Ad]) l k h0 h1
theorem xCv {α:Type} {l:List α} {j:Nat} {z:α} (h:l[j]?=some z) (x:α):ix (l.set j x) (j:Int)=some x:=vD (Ai (Ac.1 h).1)
def xIi (r:Rel):Nat:=dW (dW cIq) r.tuples+1
theorem xRp {l:List Rel} {k:Int} (h0:0<=k) (h1:k+dW xIi l<=4611686018427387904):∃ y,laws_markRelS l k=some (k+dW xIi l,y):= ⟨_,uV (m:=λk r=>Rel.mk k (mkV (dW cIq) (mkV cIq mIq) (k+1) r.tuples)) (λj x k l z h0 h1 h=>by
 have h2:k+1+dW (dW cIq) z.tuples<=4611686018427387904:=by unfold xIi at h1;omega
 simp only[vD h,nS h0 xG,xCv h,oIs xG h2,bnd_s,Ad,Ed]
 unfold xIi
 rw[Int.natCast_add,Int.add_comm (dW _ _:Int),<- Int.add_assoc];rfl) l k h0 h1⟩
def xDi (r:Con):Nat:=dW cIq r.scope+1
theorem xSr {l:List Con} {k:Int} (h0:0<=k) (h1:k+dW xDi l<=4611686018427387904):laws_markConS l k=some (k+dW xDi l,mkV xDi (λk r=>Con.mk k (mkV cIq mIq (k+1) r.scope)) k l):= uV (m:=λk r=>Con.mk k (mkV cIq mIq (k+1) r.scope)) (λj x k l z h0 h1 h=>by
 have h2:k+1+dW cIq z.scope<=4611686018427387904:=by unfold xDi at h1;omega
 simp only[vD h,nS h0 xG,xCv h,xVf xG h2,bnd_s,Ad,Ed]
 unfold xDi
 rw[Int.natCast_add,Int.add_comm (dW _ _:Int),<- Int.add_assoc];rfl) l k h0 h1
def xMe (r:A7):Nat:=dW xDi r.cons+1
theorem xSa {l:List A7} {k:Int} (h0:0<=k) (h1:k+dW xMe l<=4611686018427387904):∃ y,laws_markInstanceS l k=some (k+dW xMe l,y):= ⟨_,uV (m:=λk r=>A7.mk k (mkV xDi (λk r=>Con.mk k (mkV cIq mIq (k+1) r.scope)) (k+1) r.cons)) (λj x k l z h0 h1 h=>by
 have h2:k+1+dW xDi z.cons<=4611686018427387904:=by unfold xMe at h1;omega
 simp only[vD h,nS h0 xG,xCv h,xSr xG h2,bnd_s,Ad,Ed]
 unfold xMe
 rw[Int.natCast_add,Int.add_comm (dW _ _:Int),<- Int.add_assoc];rfl) l k h0 h1⟩
def cAq:B1->Nat:=λ_=>3
def mAq:Int->B1->B1:=λk _=>⟨k,k+1,k+1+1⟩
theorem oMh {l:List B1} {k:Int} (h0:0<=k) (h1:k+dW cAq l<=4611686018427387904):laws_markArcStepS l k=some (k+dW cAq l,mkV cAq mAq k l):= uV (m:=mAq) (λj x k l z h0 h1 h=>by
 have h2:k+3<=4611686018427387904:=h1;simp only[vD h,nS (k:=k) xG xG,nS (k:=k+1) xG xG,nS (k:=k+1+1) xG xG,xCv h,bnd_s,Ad,Ed]
 rw[show k+1+1+1=k+3 by omega];rfl) l k h0 h1
theorem oLh {l:List B1} {k:Int} (h0:0<=k) (h1:k+dW cAq l<=4611686018427387904):laws_heldArcStepS (mkV cAq mAq k l) k=some (k+dW cAq l):= xJs (m:=mAq) (λj k z h0 h1=>by
 have h2:k+3<=4611686018427387904:=h1;simp only[mAq,Ee,Ah,if_false,nS (k:=k) xG xG,nS (k:=k+1) xG xG,nS (k:=k+1+1) xG xG,bnd_s]
 rw[show k+1+1+1=k+3 by omega];rfl) l k h0 h1
def cPq:B0->Nat:=λ_=>3
def mPq:Int->B0->B0:=λk _=>⟨k,k+1,k+1+1⟩
theorem oLp {l:List B0} {k:Int} (h0:0<=k) (h1:k+dW cPq l<=4611686018427387904):laws_markPairStepS l k=some (k+dW cPq l,mkV cPq mPq k l):= uV (m:=mPq) (λj x k l z h0 h1 h=>by
 have h2:k+3<=4611686018427387904:=h1;simp only[vD h,nS (k:=k) xG xG,nS (k:=k+1) xG xG,nS (k:=k+1+1) xG xG,xCv h,bnd_s,Ad,Ed]
 rw[show k+1+1+1=k+3 by omega];rfl) l k h0 h1
theorem oLq {l:List B0} {k:Int} (h0:0<=k) (h1:k+dW cPq l<=4611686018427387904):laws_heldPairStepS (mkV cPq mPq k l) k=some (k+dW cPq l):= xJs (m:=mPq) (λj k z h0 h1=>by
 have h2:k+3<=4611686018427387904:=h1;simp only[mPq,Ee,Ah,if_false,nS (k:=k) xG xG,nS (k:=k+1) xG xG,nS (k:=k+1+1) xG xG,bnd_s]
 rw[show k+1+1+1=k+3 by omega];rfl) l k h0 h1
def cVq (v:A9):Nat:=1+dW cIq v.values+dW cAq v.arcs+dW cPq v.pairs+dW cIq v.numbers
def mVq (k:Int) (v:A9):A9:=⟨k,mkV cIq mIq (k+1) v.values,mkV cAq mAq (k+1+dW cIq v.values) v.arcs,mkV cPq mPq (k+1+dW cIq v.values+dW cAq v.arcs) v.pairs,mkV cIq mIq (k+1+dW cIq v.values+dW cAq v.arcs+dW cPq v.pairs) v.numbers⟩
theorem oLm {l:List A9} {k:Int} (h0:0<=k) (h1:k+dW cVq l<=4611686018427387904):laws_markVerdictS l k=some (k+dW cVq l,mkV cVq mVq k l):= uV (m:=mVq) (λj x k l z h0 h1 h=>by
 have h2:k+1+dW cIq z.values+dW cAq z.arcs+dW cPq z.pairs+dW cIq z.numbers<=4611686018427387904:=by unfold cVq at h1;omega
 simp only[vD h,nS h0 xG,xCv h,xVf (l:=z.values) (k:=k+1) xG xG,oMh (l:=z.arcs) (k:=k+1+dW cIq z.values) xG xG,oLp (l:=z.pairs) (k:=k+1+dW cIq z.values+dW cAq z.arcs) xG xG,xVf (l:=z.numbers) xG h2,bnd_s,Ad,Ed]
 rw[show k+(cVq z:Int)=k+1+dW cIq z.values+dW cAq z.arcs+dW cPq z.pairs+dW cIq z.numbers by unfold cVq;omega];rfl) l k h0 h1
theorem oLj {l:List A9} {k:Int} (h0:0<=k) (h1:k+dW cVq l<=4611686018427387904):laws_heldVerdictS (mkV cVq mVq k l) k=some (k+dW cVq l):= xJs (m:=mVq) (λj k z h0 h1=>by
 have h2:k+1+dW cIq z.values+dW cAq z.arcs+dW cPq z.pairs+dW cIq z.numbers<=4611686018427387904:=by unfold cVq at h1;omega
 have f:∀ {x:Int},0<=x->decide (x<0)=false:=λh=>by rw[Db];omega
 simp only[mVq,Ee,Ah,if_false,nS h0 xG,oGo (l:=z.values) (k:=k+1) xG xG,oLh (l:=z.arcs) (k:=k+1+dW cIq z.values) xG xG,oLq (l:=z.pairs) (k:=k+1+dW cIq z.values+dW cAq z.arcs) xG xG,oGo (l:=z.numbers) xG h2,bnd_s]
 rw[f xG,f xG,f xG,f xG,show k+(cVq z:Int)=k+1+dW cIq z.values+dW cAq z.arcs+dW cPq z.pairs+dW cIq z.numbers by unfold cVq;omega];rfl) l k h0 h1
theorem oAe (x:B1):laws_eqArcStep x x=some true:=by unfold laws_eqArcStep;simp
theorem xXc (x:B0):laws_eqPairStep x x=some true:=by unfold laws_eqPairStep;simp
theorem xQn (v:A9):laws_eqVerdict v v=some true:=by
 unfold laws_eqVerdict
 have h1:laws_eqArcStepS v.arcs v.arcs=some true:=xEf (f:=laws_eqArcStep) oAe _;have h2:laws_eqPairStepS v.pairs v.pairs=some true:=xEf (f:=laws_eqPairStep) xXc _;simp only[xTv,h1,h2,bnd_s,Ee,Ah,if_false,Br]
theorem xNp (l:List A9):laws_eqVerdictS l l=some true:=xEf (f:=laws_eqVerdict) xQn l
theorem oMb {v:A9} (h:VB v):cVq v<=9000:=by
 obtain⟨h1,h2,h3,h4⟩:=h;have a1:=xBb (c:=cAq) (B:=3) (l:=v.arcs) (λ_ _=>Az _);have a2:=xBb (c:=cPq) (B:=3) (l:=v.pairs) (λ_ _=>Az _)
 unfold cVq
 rw[xMm,xMm]
 omega
theorem law_VerdictsOf {N:Nat} (hN:13000<=N) {x:B6} (h:InH x):laws_FnExactVerdictsOf N x=some true:=by
 obtain⟨z,z1,z2⟩:=xUc h;have z1':laws_szHouse (B6.mk (A6.mk x.template.size x.template.rels) x.jobs x.clerks) 1048576=some z:=z1
 unfold laws_FnExactVerdictsOf
 rw[z1',bnd_s]
 by_cases hz:z<0
 ·rw[if_pos (decide_eq_true hz)]
 ·rw[if_neg (by rw[Bj];exact hz)]
  rcases z2 with g | ⟨g1,g2⟩
  ·exact absurd g hz
  have qa:laws_toHouse (B6.mk (A6.mk x.template.size x.template.rels) x.jobs x.clerks)=some x:=by
   unfold laws_toHouse
   have e1:laws_toTemplate (A6.mk x.template.size x.template.rels)=some x.template:=xMu g1;simp only[e1,xLi g2,bnd_s]
  have ht:lV x.template:=λr hr=>(g1.2 r hr).1;obtain⟨r,r1,r2,r3,r4⟩:=xPj (N:=N) (h:=x) ht hN
  obtain⟨q,s1,s2,s3,s4⟩:∃ q:List A9×Int,mL N x=some q/\mO N x=some q/\q.1.length<=4/\∀ v∈q.1,VB v:=by
   unfold mL mO
   have e1:dY N (B6.mk (A6.mk x.template.size x.template.rels) x.jobs x.clerks)=some r:=r2;have e2:iP N (B6.mk (A6.mk x.template.size x.template.rels) x.jobs x.clerks)=some r:=r1;rw[e1,e2,bnd_s]
   by_cases hr:(!r.2)=true
   ·rw[if_pos hr];exact⟨_,rfl,rfl,Bi _,λ_ h=>nomatch h⟩
   ·rw[if_neg hr];exact⟨_,rfl,rfl,r3,r4⟩
  have b1:dW xIi x.template.rels<=1048576*(1048576*1048576+1):=Cb (xBb (B:=1048576*1048576+1) (λr hr=>by
   have:=Cb (xBb (c:=dW cIq) (B:=1048576) (l:=r.tuples) (λt ht=>by rw[xMm];exact(g1.2 r hr).2 t ht)) (Ax _ (g1.2 r hr).1)
   unfold xIi;omega)) (Ax _ g1.1)
  have b2:dW xMe x.jobs<=1048576*(1048576*1048577+1):=Cb (xBb (B:=1048576*1048577+1) (λr hr=>by
   have:=Cb (xBb (c:=xDi) (B:=1048577) (l:=r.cons) (λt ht=>by have:=(g2.2 r hr).2 t ht;unfold xDi;rw[xMm];omega)) (Ax _ (g2.2 r hr).1)
   unfold xMe;omega)) (Ax _ g2.1)
  have b3:dW cVq q.1<=4*9000:=Cb (xBb (B:=9000) (λv hv=>oMb (s4 v hv))) (Ax _ s3);obtain⟨y1,m1⟩:=xRp (l:=x.template.rels) (k:=1) xG xG;obtain⟨y2,m2⟩:=xSa (l:=x.jobs) (k:=1+(dW xIi x.template.rels:Int)) xG xG
  have m3:laws_markHouse x 1=some (1+(dW xIi x.template.rels:Int)+(dW xMe x.jobs:Int)):=by
   unfold laws_markHouse laws_markTemplate
   rw[m1,bnd_s,bnd_s,m2,bnd_s]
  have m4:=oLm (l:=q.1) (k:=1) xG xG;have m5:=oLj (l:=q.1) (k:=1) xG xG
  have f:∀ {x:Int},0<=x->decide (x<0)=false:=λh=>by rw[Db];omega
  rw[qa,bnd_s];simp only[show B6.mk (A6.mk x.template.size x.template.rels) x.jobs x.clerks=x from rfl,s1,s2,bnd_s,xNp,xUu,m3,m4,m5,Ee,Ah,if_false,Br,thn_nx];rw[f xG,f xG]
  rfl
end
section
open Go.ChangeShapes Go.WideShapes Go.ChangeAt Go.RowKit Go.Deep
def tM {α:Type} (P:Program) (e:Ty) (sz:Nat) (R:ER α):Prop:= ∀ (H:Type) (enc:Ty×Vl->H) (W:Wd) (fuel:Nat) (cs:List Vl) (y:DataW H×List MemPlace),DataW.trod enc P W 0 (λ_=>true) true fuel e cs=some y->cs.length=sz/\∃ x bs,R W (λj=>cs[j]?) x bs/\kH bs W
theorem xXw {P:Program} {e:Ty} (h:P.underlying e=some (.int .i64)):tM P e 1 xF:=by
 intro H enc W fuel cs y hy;obtain⟨n,rfl,rfl,hw⟩:=DataW.trod_int h hy;exact⟨rfl,n,[],⟨rfl,bounds_i64 hw,rfl⟩,λ_ h=>by cases h⟩
theorem rT {α:Type} [Inhabited α] {P:Program} {t e:Ty} {sz:Nat} {R:ER α} (ht:P.underlying t=some (.slice e)) (hc:P.cellsOf e=sz) (h0:0<sz) (hR:Fr sz R) (h:tM P e sz R):tM P t 1 (zV sz R):=by
 intro H enc W fuel cs y hy
 rcases Deep.open_slice ht hy with ⟨rfl,rfl⟩ | ⟨a,len,cap,m,n,D,Pl,rfl,_,qh,qe,hm,rfl,hx⟩
 ·exact⟨rfl,[],[],⟨_,rfl,none,0,rfl,Az _,by unfold maxLen;omega,λ_=>rfl,.inl ⟨rfl,rfl⟩⟩,λ_ h=>by cases h⟩
 ·refine⟨rfl,?_⟩
  have hlm:len<=m:=by rw[hm];simp;exact qh
  have ql:∀ i,i<len->∃ z:α×List Nat,R W (λj=>W.cell? ((a.add (i*sz)).add j)) z.1 z.2/\kH z.2 W:=by
   intro i hi;obtain⟨cs',h1,h2⟩:=hx i xG;rw[hc] at h1;obtain⟨_,hl,qa⟩:=World.cells?_some h1;obtain⟨_,x,bs,hr,hb⟩:=h H enc W n cs' _ h2;exact⟨(x,bs),hR _ _ _ _ _ _ hr (λ_ _=>rfl) (λj hj=>qa j hj),hb⟩
  obtain⟨Z,hZ⟩:=Deep.choose_lt (α:=α×List Nat) (p:=λi z=>R W (λj=>W.cell? ((a.add (i*sz)).add j)) z.1 z.2/\kH z.2 W) ql
  by_cases qi:len=0
  ·subst qi
   exact⟨[],[],⟨_,rfl,some a,cap,rfl,qh,qe,(λh=>nomatch h),.inl ⟨rfl,rfl⟩⟩,λ_ h=>by cases h⟩
  ·
   obtain⟨cs',h1,_⟩:=hx 0 xG;rw[hc] at h1;obtain⟨_,hl,qa⟩:=World.cells?_some h1;have qc:=qa 0 h0;rw[Aa xG] at qc
   have qj:(a.add (0*sz)).add 0=a:=by simp [Addr.add]
   rw[qj] at qc
   have qd:a.spot=none:=by
    unfold World.cell? at qc
    split at qc
    ·split at qc
     ·cases qc
     ·rename_i hs
      simpa using hs
    ·cases qc
   have qf:a.block<W.heap.size:=World.block_lt_of_cell? W a qc;obtain⟨b,o,sp⟩:=a;simp only at qd qf;subst qd
   have qg:∀ i j,((⟨b,o,none⟩:Addr).add i).add j=⟨b,o+i+j,none⟩:=λi j=>by
    unfold Addr.add
    by_cases hi:i=0<;>by_cases hj:j=0<;>simp [hi,hj]
   refine⟨(List.range len).map λi=>(Z i).1,b::((List.range len).map λi=>(Z i).2).flatten,⟨_,rfl,some ⟨b,o,none⟩,cap,vK,vV qh,qe,(λh=>nomatch h),.inr ⟨b,o,_,rfl,rfl,vK,λi x bi hx hi=>?_⟩⟩,λc qe=>?_⟩
   ·have qk:i<len:=by
     have:=(Ac.1 hx).1
     simpa using this
    simp only[Bc,Ef qk,Cw] at hx hi
    cases hx
    cases hi
    have h2:=(hZ i qk).1;simp only[qg] at h2;exact h2
   ·rcases Av.1 qe with rfl | qe
    ·exact qf
    ·obtain⟨l,qm,qn⟩:=Bl.1 qe
     obtain⟨i,hi,rfl⟩:=Cy.1 qm;exact(hZ i (List.mem_range.1 hi)).2 c qn
theorem xZi {α:Type} {P:Program} {t:Ty} {sz:Nat} {R:ER α} {r:Reach} {b0:Nat} {fs:Array Field} (ht:P.underlying t=some (.struct fs)) (h:tM P t sz R) {H:Type} {enc:Ty×Vl->H} {W:Wd} {v:Vl} {d:DataW H} {p:List MemPlace} (hv:Value.okWide P W r b0 t v) (hd:DataW.Trod enc P W 0 (λ_=>true) true t v d p):∃ x bs,qR sz R W v x bs/\kH bs W:=by
 obtain⟨cs,rfl,_⟩:=okWide_struct ht hv;obtain⟨l⟩:=cs;obtain⟨fuel,hf⟩:=hd;obtain⟨hl,x,bs,hr,hm⟩:=h H enc W fuel _ _ hf;exact⟨x,bs,⟨l,by simpa [Value.cells] using hl,rfl,by simpa [Value.cells] using hr⟩,hm⟩
theorem xEw {H:Type} {enc:Ty×Vl->H} {P:Program} {W:Wd} {n:Nat} {cs:List Vl} {xs:List (DataW H×List MemPlace)} {fs:Array Field}
 (hone:oneCellFields P fs=true) (hl:cs.length=fs.size) (hxl:xs.length=fs.size)
 (hf:∀ (i:Nat) (f:Field),fs[i]?=some f->DataW.trod enc P W 0 (λ_=>true) true n f.type ((cs.drop f.offset).take (P.cellsOf f.type))=xs[i]?) (i:Nat) (f:Field) (hi:fs[i]?=some f) :
 ∃ c y,cs[i]?=some c/\DataW.trod enc P W 0 (λ_=>true) true n f.type [c]=some y:=by
 obtain⟨ho,hc⟩:=hone_of hone i f hi;have hil:i<fs.size:=(Cz.1 hi).1;have h:=hf i f hi;rw[ho,hc,Aa xG] at h
 have e:(cs.drop i).take 1=[cs[i]'(xG)]:=by rw[Bt xG];rfl
 rw[e] at h;exact⟨_,_,Aa xG,h⟩
end
section
open Go.ChangeShapes Go.WideShapes Go.ChangeAt Go.RowKit Go.Deep
theorem Tryz.laidOut:laidOutB Tryz.prog=true:=by kernel_rfl
theorem xCt:tM Tryz.prog 2 1 xF:=xXw Tryz.underlying2
theorem xQw:tM Tryz.prog 53 1 (zV 1 xF):=rT Tryz.underlying53 (by kernel_rfl) kS xF.fr xCt
theorem oAi:tM Tryz.prog 93 1 (zV 1 tX):=rT Tryz.underlying93 (by kernel_rfl) kS tX.fr xQw
theorem xWa:tM Tryz.prog 95 2 oR:=by
 intro H enc W fuel cs y hy;obtain⟨xs,n,_,rfl,hl,qc,hf⟩:=DataW.trod_struct Tryz.underlying95 hy;have qa:cs.length=2:=hl.trans (by kernel_rfl);have F:=xEw (by kernel_rfl) qa qc hf;obtain⟨c0,y0,h0,t0⟩:=F 0 _ rfl;obtain⟨_,x0,_,⟨q0,r0,rfl⟩,_⟩:=xCt H enc W n _ _ t0;obtain rfl:=Option.some.inj q0;obtain⟨c1,y1,h1,t1⟩:=F 1 _ rfl;obtain⟨_,x1,b1,⟨v1,q1,r1⟩,m1⟩:=oAi H enc W n _ _ t1;obtain rfl:=Option.some.inj q1;exact⟨qa,⟨x0,x1⟩,_,⟨_,_,h0,r0,h1,r1,rfl⟩,m1⟩
theorem xTe:tM Tryz.prog 22 1 (zV 2 oR):=rT Tryz.underlying22 (by kernel_rfl) kS oR.fr xWa
theorem xKg:tM Tryz.prog 24 2 xC:=by
 intro H enc W fuel cs y hy;obtain⟨xs,n,_,rfl,hl,qc,hf⟩:=DataW.trod_struct Tryz.underlying24 hy;have qa:cs.length=2:=hl.trans (by kernel_rfl);have F:=xEw (by kernel_rfl) qa qc hf;obtain⟨c0,y0,h0,t0⟩:=F 0 _ rfl;obtain⟨_,x0,_,⟨q0,r0,rfl⟩,_⟩:=xCt H enc W n _ _ t0;obtain rfl:=Option.some.inj q0;obtain⟨c1,y1,h1,t1⟩:=F 1 _ rfl;obtain⟨_,x1,b1,⟨v1,q1,r1⟩,m1⟩:=xTe H enc W n _ _ t1;obtain rfl:=Option.some.inj q1;exact⟨qa,⟨x0,x1⟩,_,⟨_,_,h0,r0,h1,r1,rfl⟩,m1⟩
theorem xWg:tM Tryz.prog 127 2 vH:=by
 intro H enc W fuel cs y hy;obtain⟨xs,n,_,rfl,hl,qc,hf⟩:=DataW.trod_struct Tryz.underlying127 hy;have qa:cs.length=2:=hl.trans (by kernel_rfl);have F:=xEw (by kernel_rfl) qa qc hf;obtain⟨c0,y0,h0,t0⟩:=F 0 _ rfl;obtain⟨_,x0,_,⟨q0,r0,rfl⟩,_⟩:=xCt H enc W n _ _ t0;obtain rfl:=Option.some.inj q0;obtain⟨c1,y1,h1,t1⟩:=F 1 _ rfl;obtain⟨_,x1,b1,⟨v1,q1,r1⟩,m1⟩:=xQw H enc W n _ _ t1;obtain rfl:=Option.some.inj q1;exact⟨qa,⟨x0,x1⟩,_,⟨_,_,h0,r0,h1,r1,rfl⟩,m1⟩
theorem xUp:tM Tryz.prog 67 1 (zV 2 vH):=rT Tryz.underlying67 (by kernel_rfl) kS vH.fr xWg
theorem xMb:tM Tryz.prog 69 2 xJ:=by
 intro H enc W fuel cs y hy;obtain⟨xs,n,_,rfl,hl,qc,hf⟩:=DataW.trod_struct Tryz.underlying69 hy;have qa:cs.length=2:=hl.trans (by kernel_rfl);have F:=xEw (by kernel_rfl) qa qc hf;obtain⟨c0,y0,h0,t0⟩:=F 0 _ rfl;obtain⟨_,x0,_,⟨q0,r0,rfl⟩,_⟩:=xCt H enc W n _ _ t0;obtain rfl:=Option.some.inj q0;obtain⟨c1,y1,h1,t1⟩:=F 1 _ rfl;obtain⟨_,x1,b1,⟨v1,q1,r1⟩,m1⟩:=xUp H enc W n _ _ t1;obtain rfl:=Option.some.inj q1;exact⟨qa,⟨x0,x1⟩,_,⟨_,_,h0,r0,h1,r1,rfl⟩,m1⟩
theorem xIz:tM Tryz.prog 25 1 (zV 2 xJ):=rT Tryz.underlying25 (by kernel_rfl) kS xJ.fr xMb
end
section
theorem oEu:laidOutB Tryz.prog=true:=by kernel_rfl
theorem oDi:mapsRowed Tryz.prog=true:=by kernel_rfl
theorem oDn:Tryz.prog.plainKeys=true:=by kernel_rfl
theorem xYk:Tryz.prog.stopsHeard=true:=by kernel_rfl
theorem oCc:Tryz.prog.mayEnter=true:=by kernel_rfl
theorem oBp:Tryz.prog.liftsFinal=false:=by kernel_rfl
end
end Go.Proofs.YtomlfdagbmgmgaaGreat
