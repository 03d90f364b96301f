import Derived.Test.YtnjlbbfcngjhmaaGreatLL
namespace Go.Proofs.YtnjlbbfcngjhmaaGreat
set_option linter.unusedVariables false
set_option linter.unusedSimpArgs false
section
variable {ρ:Type} {σ:Type} {α:Type} {s':σ}
@[simp] theorem bnd_s {β:Type} (x:α) (k:α->Option β):xG (some x) k=k x:=rfl
@[simp] theorem bnd_n {β:Type} (k:α->Option β):xG none k=none:=rfl
@[simp] theorem thn_nx (s:σ) (k:σ->Option ρ):oZ (some (.nx s)) k=k s:=rfl
@[simp] theorem thn_ret (r:ρ) (k:σ->Option ρ):oZ (some (.ret r)) k=some r:=rfl
@[simp] theorem forL_nil' (b:Nat->α->σ->Option (Ctl σ ρ)) (k:Nat) (s:σ):oM b [] k s=some (.nx s):=rfl
theorem vQ {b:Nat->α->σ->Option (Ctl σ ρ)} {x:α} {l:List α} {k:Nat} {s:σ} (h:b k x s=some (.go s')):oM b (x::l) k s=oM b l (k+1) s':=by simp only[oM,h]
theorem fP {b:Nat->α->σ->Option (Ctl σ ρ)} {x:α} {l:List α} {k:Nat} {s:σ} {r:ρ} (h:b k x s=some (.ret r)):oM b (x::l) k s=some (.ret r):=by simp only[oM,h]
theorem zM {b:Nat->σ->Option (Ctl σ ρ)} {m k:Nat} {s:σ} (h:b k s=some (.go s')):qM b (m+1) k s=qM b m (k+1) s':=by simp only[qM,h]
theorem mR {b:Nat->σ->Option (Ctl σ ρ)} {m k:Nat} {s:σ} {r:ρ} (h:b k s=some (.ret r)):qM b (m+1) k s=some (.ret r):=by simp only[qM,h]
theorem eT {b:σ->Option (Ctl σ ρ)} {m:Nat} {s:σ} (h:b s=some (.go s')):mL b (m+1) s=mL b m s':=by simp only[mL,h]
theorem bY {b:σ->Option (Ctl σ ρ)} {m:Nat} {s:σ} (h:b s=some (.brk s')):mL b (m+1) s=some (.nx s'):=by simp only[mL,h]
theorem wP {b:σ->Option (Ctl σ ρ)} {m:Nat} {s:σ} {r:ρ} (h:b s=some (.ret r)):mL b (m+1) s=some (.ret r):=by simp only[mL,h]
def fnd {α ρ:Type} (q:Nat->α->Option ρ):List α->Nat->Option ρ
 | [],_=>none
 | x::l,k=>match q k x with | some r=>some r | none=>fnd q l (k+1)
def xAn:Option ρ->Ctl Unit ρ | some r=>.ret r | none=>.go ()
def xIf:Option ρ->Out Unit ρ | some r=>.ret r | none=>.nx ()
theorem dC {α ρ:Type} (q:Nat->α->Option ρ) {b:Nat->α->Unit->Option (Ctl Unit ρ)}:∀ {l:List α} {k:Nat},(∀ j x,l[j]?=some x->b (k+j) x ()=some (xAn (q (k+j) x)))->oM b l k ()=some (xIf (fnd q l k))
 | [],_,_=>rfl
 | x::l,k,h=>by
  have h0:=h 0 x rfl;rw[Cb] at h0
  unfold fnd
  cases hq:q k x with
  | some r=>rw[hq] at h0;exact fP h0
  | none=>
   rw[hq] at h0;rw[vQ (s':=()) h0];exact dC q (λj y hj=>by rw[Dq,Ef 1 j];exact h (j+1) y hj)
theorem tE {α ρ:Type} {p:α->Bool} {r:ρ}:∀ {l:List α} {k:Nat},fnd (λ_ x=>if p x then some r else none) l k=if l.any p then some r else none
 | [],_=>rfl
 | x::l,k=>by
  unfold fnd
  by_cases h:p x=true
  ·simp [h]
  ·have hp:p x=false:=by simpa using h
   simp only[hp,Dx,Ee];exact tE
theorem xSb {α ρ:Type} {f g:Nat->α->Unit->Option (Ctl Unit ρ)} (Inv:Nat->Prop) (Q:ρ->Prop):∀ {l:List α} {k:Nat},Inv k->(∀ j x,l[j]?=some x->Inv (k+j)->∃ q:Option ρ,f (k+j) x ()=some (xAn q)/\g (k+j) x ()=some (xAn q)/\(q=none->Inv (k+j+1))/\∀ r,q=some r->Q r)->∃ q:Option ρ,oM f l k ()=some (xIf q)/\oM g l k ()=some (xIf q)/\(q=none->Inv (k+l.length))/\∀ r,q=some r->Q r
 | [],_,hi,_=>⟨none,rfl,rfl,λ_=>hi,λ_ h=>nomatch h⟩
 | x::l,k,hi,h=>by
  obtain⟨q,hf,hg,hq,hQ⟩:=h 0 x rfl hi;rw[Cb] at hf hg hq
  cases q with
  | some r=>exact⟨some r,fP hf,fP hg,(λh=>nomatch h),hQ⟩
  | none=>
   rw[vQ (s':=()) hf,vQ (s':=()) hg]
   obtain⟨q,h1,h2,h3,h4⟩:=xSb (l:=l) (k:=k+1) Inv Q (hq rfl) (λj y hj qa=>by
    rw[Dq,Ef 1 j] at qa ⊢
    exact h (j+1) y hj qa)
   exact⟨q,h1,h2,(λe=>by have:=h3 e;rw[Am,Ef l.length 1,<- Dq];exact this),h4⟩
theorem lK {l:List α} {i:Int} {x:α} (h0:0<=i) (h:l[i.toNat]?=some x):ix l i=some x:=by unfold ix;rw[if_pos h0];exact h
theorem vE {l:List α} {i:Nat} {x:α} (h:l[i]?=some x):ix l (i:Int)=some x:=lK (by omega) (by simpa using h)
theorem zJ {x:Int} (h0: -9223372036854775808<=x) (h1:x<=9223372036854775807):ck x=some x:=if_pos ⟨h0,h1⟩
theorem kX {l m:List α} (h:(l.length+m.length)*1024<=140737488355328):ap l m=some (l++m):=if_pos h
theorem uN (l : List α) (p : α->Bool) (f : α->Option Bool) (hf : ∀ x ∈ l, f x = some (p x)) : ∃ i : Int, oZ (oM (σ := Unit) (ρ := Int) (λk (x : α) s =>match s with | _=>xG (f x) λz=>if z then some (.ret ((k:Int))) else some (.go ())) l 0 ()) (λ_=>some (-1))=some i/\decide (0<=i)=l.any p:=by
 rw[dC (λk x=>if p x then some (k:Int) else none) (λj x hj=>by
  simp only[hf x (Ae hj),bnd_s]
  by_cases hv:p x=true
  ·simp [hv,xAn]
  ·simp [hv,xAn])]
 have key:∀ (l:List α) (k:Nat),(l.any p=true/\∃ i:Nat,fnd (λk x=>if p x then some (k:Int) else none) l k=some (i:Int))∨(l.any p=false/\fnd (λk x=>if p x then some (k:Int) else none) l k=none):=by
  intro l
  induction l with
  | nil=>intro k;exact .inr ⟨rfl,rfl⟩
  | cons x l ih=>
   intro k
   unfold fnd
   by_cases hv:p x=true
   ·exact .inl ⟨by simp [hv],k,by simp [hv]⟩
   ·have qa:p x=false:=by simpa using hv
    rcases ih (k+1) with ⟨h1,i,h2⟩ | ⟨h1,h2⟩
    ·exact .inl ⟨by simp [h1],i,by simp [qa,h2]⟩
    ·exact .inr ⟨by simp [h1,qa],by simp [qa,h2]⟩
 rcases key l 0 with ⟨h1,i,h2⟩ | ⟨h1,h2⟩
 ·rw[h2];exact⟨i,rfl,by simp [h1]⟩
 ·rw[h2];exact⟨-1,rfl,by simp [h1]⟩
end
section
variable {N:Nat}
theorem own_eq (l:List Int) (h:l.length<=1048576):zO l=some l:=by
 unfold zO
 rw[kX (by simp only[Bi];omega),bnd_s];rfl
theorem xRk (l:List Int) (h:l.length<=1048576):oH l=some l:=by
 unfold oH
 rw[kX (by simp only[Bi];omega),bnd_s];rfl
theorem xGq (l:List Int) (a:Int):dG l a=some (l.any (· == a)):=by
 unfold dG
 rw[dC (λ_ x=>if x==a then some true else none) (λj x hj=>by by_cases h:(x==a)=true<;>simp [h,xAn]),tE]
 cases h:l.any (· == a)<;>rfl
theorem xBx (l:List Int) (a:Int):vJ l a=some (l.any (· == a)):=by
 unfold vJ
 obtain⟨i,h1,h2⟩:=uN l (λx=>a==x) (λx=>some (a==x)) (λ_ _=>rfl);have h3:bV l a=some i:=h1;rw[h3,bnd_s,h2]
 congr 2
 funext x
 exact Bool.beq_comm
theorem xGf {ρ:Type} {b:Nat->Int->List Int->Option (Ctl (List Int) ρ)} (p:Int->Bool) (hb:∀ k x s,s.length<=2097152->b k x s=some (.go (if p x then s++[x] else s))):∀ (l:List Int) (k:Nat) (s:List Int),s.length+l.length<=2097152->oM b l k s=some (.nx (s++l.filter p))
 | [],_,s,_=>by simp
 | x::l,k,s,h=>by
  rw[Am] at h;rw[vQ (hb k x s (by omega))]
  cases hp:p x with
  | true=>rw[if_pos rfl,xGf p hb l _ _ (by simp only[Aq,Ak];omega),Dv,hp,Df];rfl
  | false=>rw[if_neg (by simp),xGf p hb l _ _ (by omega),Dv,hp];rfl
theorem xMu (l:List Int) (a:Int) (h:l.length<=1048576):cE l a=some (l.filter (· != a)):=by
 unfold cE
 rw[xGf (λx=>x != a) (λk x s hs=>by
  by_cases hx:(x != a)=true
  ·rw[if_pos hx,if_pos hx,kX (by simp only[Am,Bi];omega),bnd_s]
  ·rw[if_neg hx,if_neg hx]) l 0 [] (by simp only[Bi];omega),thn_nx]
 simp
def xMj (p:Int->Bool):List Int->Nat->Option Nat | [],_=>none | x::l,k=>if p x then some k else xMj p l (k+1)
theorem xOe (p:Int->Bool):∀ (l:List Int) (k:Nat),(xMj p l k=none/\l.filter (λx=>!p x)=l)∨∃ i,i<l.length/\xMj p l k=some (k+i)/\(l.take i).filter (λx=>!p x)=l.take i/\∃ x,l[i]?=some x/\p x=true
 | [],_=>.inl ⟨rfl,rfl⟩
 | x::l,k=>by
  by_cases h:p x=true
  ·exact .inr ⟨0,by simp,by simp [xMj,h],rfl,x,rfl,h⟩
  ·have h':p x=false:=by simpa using h
   rcases xOe p l (k+1) with ⟨h1,h2⟩ | ⟨i,h1,h2,h3,y,h4,h5⟩
   ·exact .inl ⟨by simp [xMj,h',h1],by rw[Dv];simp [h',h2]⟩
   ·refine .inr ⟨i+1,by simp;omega,by simp [xMj,h',h2];omega,?_,y,by simpa using h4,h5⟩
    rw[List.take_succ_cons,Dv];simp [h',h3]
theorem xQr (p:Int->Bool):∀ (l:List Int) (k:Nat),fnd (λk x=>if p x then some (k:Int) else none) l k=(xMj p l k).map (λi=>(i:Int))
 | [],_=>rfl
 | x::l,k=>by
  unfold fnd xMj
  by_cases h:p x=true
  ·simp [h]
  ·have h':p x=false:=by simpa using h
   simp only[h',Af,if_false];exact xQr p l (k+1)
theorem xZe (l:List Int) (p:Int->Bool) (f:Int->Option Bool) (hf:∀ x,f x=some (p x)):qA l f=some (match xMj p l 0 with | some i=>(i:Int) | none=>-1):=by
 have h0:qA l f=oZ (oM (σ:=Unit) (ρ:=Int) (λk (x:Int) s=>match s with | _=>xG (f x) λz=>if z then some (.ret (k:Int)) else some (.go ())) l 0 ()) (λ_=>some (-1)):=rfl;rw[h0,dC (λk x=>if p x then some (k:Int) else none) (λj x hj=>by simp only[hf,bnd_s];by_cases hv:p x=true<;>simp [hv,xAn]),xQr]
 cases xMj p l 0<;>rfl
theorem xMm {l:List Int} {i:Nat} (h:i<l.length) (x:Int):(l.set i x).take (i+1)=l.take i++[x]:=by
 rw[List.take_add_one,List.take_set,Al h]
 congr 1
 rw[List.set_eq_of_length_le (by simp;omega)]
theorem xXn {l:List Int} {i j:Nat} (h:i<j) (x:Int):(l.set i x).drop j=l.drop j:=by
 apply Cs
 intro k;rw[Dr,Dr,Aj (by omega)]
theorem oAk (p:Int->Bool) (f:Int->Option Bool) (hf:∀ x,f x=some (p x)) (l:List Int) (hl:l.length<=1048576):∀ (N i j:Nat) (m:List Int),l.length - j<N->i<j->j<=l.length->m.length=l.length->m.take i=(l.take j).filter (λx=>!p x)->m.drop j=l.drop j->
 ∃ (i':Nat) (m':List Int),mL (σ:=Int×Int×(List Int)) (ρ:=List Int) (λs=>match s with | (s1,s2,s3)=>if (decide (s2<(s3.length:Int))) then xG (ix s3 s2) λz1=>xG (f z1) λz2=>if (!z2) then xG (ix s3 s1) λz3=>xG (ck (s1+1)) λz4=>xG (ck (s2+1)) λz5=>some (.go (z4,z5,(s3.set (s1).toNat z1))) else xG (ck (s2+1)) λz6=>some (.go (s1,z6,s3)) else some (.brk (s1,s2,s3))) N ((i:Int),(j:Int),m)=some (.nx ((i':Int),((l.length:Nat):Int),m'))/\i'<=m'.length/\m'.length=l.length/\m'.take i'=l.filter (λx=>!p x):=by
 intro N
 induction N with
 | zero=>intro i j m h;omega
 | succ N ih=>
  intro i j m hN hij hj hm ht hd
  by_cases qf:j<l.length
  ·have qg:m[j]?=l[j]?:=by
    have:=congrArg (λq=>q[0]?) hd
    simpa [Dr] using this
   have qa:l[j]?=some l[j]:=Aa qf;have hx:ix m (j:Int)=some l[j]:=vE (qg.trans qa);have hi:ix m (i:Int)=some m[i]:=vE (Aa (by omega));have qc:ck ((j:Int)+1)=some (((j+1:Nat)):Int):=zJ (by omega) (by omega);have qh:ck ((i:Int)+1)=some (((i+1:Nat)):Int):=zJ (by omega) (by omega)
   have qd:(l.take (j+1)).filter (λx=>!p x)=(l.take j).filter (λx=>!p x)++(if p l[j] then [] else [l[j]]):=by
    rw[List.take_add_one,qa,List.filter_append]
    cases hp:p l[j]<;>simp [hp]
   have qe:m.drop (j+1)=l.drop (j+1):=by
    have:=congrArg (List.drop 1) hd
    simpa [Eg] using this
   cases hp:p l[j] with
   | true=>
    obtain⟨i',m',h1,h2⟩:=ih i (j+1) m (by omega) (by omega) (by omega) hm (by rw[qd,hp,ht];simp) qe;refine⟨i',m',?_,h2⟩;rw[eT (s':=((i:Int),((j+1:Nat):Int),m)) (by simp only[hm];rw[if_pos (by simp;omega),hx,bnd_s,hf,bnd_s,hp,qc,bnd_s];rfl),h1]
   | false=>
    obtain⟨i',m',h1,h2⟩:=ih (i+1) (j+1) (m.set i l[j]) (by omega) (by omega) (by omega) (by simpa using hm) (by rw[qd,hp,xMm (by omega),ht];simp) (by rw[xXn (by omega),qe]);refine⟨i',m',?_,h2⟩;rw[eT (s':=(((i+1:Nat):Int),((j+1:Nat):Int),m.set i l[j])) (by simp only[hm];rw[if_pos (by simp;omega),hx,bnd_s,hf,bnd_s,hp,hi];simp only[Cl,if_true,bnd_s,qc,qh,Ad]),h1]
  ·obtain rfl:j=l.length:=by omega
   refine⟨i,m,?_,by omega,hm,by rw[ht,List.take_length]⟩;exact bY (by simp only[hm];rw[if_neg (by simp)])
theorem xLy (l:List Int) (p:Int->Bool) (f:Int->Option Bool) (hf:∀ x,f x=some (p x)) (hl:l.length<=1048576) (hN:l.length<N):kC N l f=some (l.filter (λx=>!p x)):=by
 unfold kC
 rw[xZe l p f hf,bnd_s]
 rcases xOe p l 0 with ⟨h1,h2⟩ | ⟨i,h1,h2,h3,x,h4,h5⟩
 ·rw[h1,h2];rfl
 ·rw[h2,Bj]
  simp only;rw[if_neg (by simp<;>omega),show ck ((i:Int)+1)=some (((i+1:Nat)):Int) from zJ (by omega) (by omega),bnd_s]
  obtain⟨i',m',g1,g2,g3,g4⟩:=oAk p f hf l hl N i (i+1) l (by omega) (by omega) (by omega) rfl (by
   rw[List.take_add_one,h4,List.filter_append,h3]
   simp [h5]) rfl
  rw[g1,thn_nx];simp only
  have qa:sl m' (i':Int) (m'.length:Int)=some ((m'.take m'.length).drop i'):=by
   unfold sl;rw[if_pos ⟨by omega,by omega,by omega⟩];simp
  have qc:sl (m'.take i'++List.replicate (m'.length - i') (0:Int)) 0 (i':Int)=some (m'.take i'):=by
   unfold sl
   rw[if_pos ⟨by omega,by omega,by simp;omega⟩];simp only[Ad,show(0:Int).toNat=0 from rfl,Er];rw[Cu (by simp;omega),List.take_take,Nat.min_self]
  rw[qa,bnd_s];simp only[Ad];rw[qc,bnd_s,g4]
theorem xTj (l:List Int) (a:Int) (hl:l.length<=1048576) (hN:l.length<N):fX N l a=some (l.filter (· != a)):=by
 unfold fX
 rw[xRk l hl,bnd_s,xLy l (λx=>x==a) (λa0=>rC a0 a) (λx=>rfl) hl hN,bnd_s]
 rfl
theorem wW {ρ:Type} {b:Nat->Unit->Option (Ctl Unit ρ)} (p:Nat->Bool) (r:ρ):∀ (m k:Nat),(∀ j,k<=j->j<k+m->b j ()=some (if p j then .ret r else .go ()))->qM b m k ()=some (if (List.range' k m).any p then .ret r else .nx ())
 | 0,k,_=>rfl
 | m+1,k,h=>by
  have h0:=h k (Az _) (by omega)
  cases hp:p k with
  | true=>rw[hp] at h0;rw[mR h0,Ds,Dx,hp];rfl
  | false=>
   rw[hp] at h0;rw[zM (s':=()) h0,wW p r m (k+1) (λj h1 h2=>h j (by omega) (by omega)),Ds,Dx,hp]
   rfl
def agP (sc t:List Int) (k j:Nat):Bool:=(sc.getD k 0==sc.getD j 0) && (t.getD k 0 != t.getD j 0)
def agB (sc t:List Int):Bool:=!((List.range' 0 sc.length).any λk=>(List.range' 0 k).any (agP sc t k))
theorem xGw {α:Type} (g:Nat->Bool):∀ (l:List α) (k:Nat),fnd (λk _=>if g k then some false else none) l k=if (List.range' k l.length).any g then some false else none
 | [],_=>rfl
 | x::l,k=>by
  unfold fnd
  rw[Am,Ds,Dx]
  by_cases h:g k=true
  ·simp [h]
  ·have h':g k=false:=by simpa using h
   simp only[h',Af,if_false,Ee];exact xGw g l (k+1)
theorem xPs {l:List Int} {k:Nat} {x:Int} (h:l[k]?=some x):l.getD k 0=x:=by rw[Ao,h];rfl
theorem iJ {l:List Int} {k:Nat} (h:k<l.length):ix l (k:Int)=some (l.getD k 0):=vE (by rw[Aa h,xPs (Aa h)])
theorem xNw (c:Con) (t:List Int) (h:t.length=c.scope.length):fK c t=some (agB c.scope t):=by
 unfold fK
 rw[dC (λk _=>if (List.range' 0 k).any (agP c.scope t k) then some false else none) (λj x hj=>by
  have hjl:j<c.scope.length:=(Ac.1 hj).1;rw[Bj];simp only[Ad]
  rw[wW (agP c.scope t j) (.ret false) j 0 (λq h1 h2=>by
   have hq:q<c.scope.length:=by omega
   rw[iJ hq,bnd_s,iJ (by omega:q<t.length),iJ (by omega:j<t.length)]
   unfold agP
   rw[xPs hj];generalize c.scope.getD q 0=u;generalize t.getD q 0=v;generalize t.getD j 0=z;simp only[bnd_s]
   by_cases h3:u=x
   ·by_cases h4:v=z
    ·simp [h3,h4]
    ·simp [h3,h4,Ne.symm h4]
   ·simp [h3,Ne.symm h3])]
  cases (List.range' 0 j).any (agP c.scope t j)<;>rfl),xGw]
 unfold agB
 cases (List.range' 0 c.scope.length).any λk=>(List.range' 0 k).any (agP c.scope t k)<;>rfl
theorem xQg (c:Con) (t:List Int) (h:t.length=c.scope.length):gJ c t=some (agB c.scope t):=by
 unfold gJ
 rw[dC (λk _=>if (List.range' 0 k).any (agP c.scope t k) then some false else none) (λj x hj=>by
  have hjl:j<t.length:=(Ac.1 hj).1;rw[Bj];simp only[Ad]
  rw[wW (agP c.scope t j) (.ret false) j 0 (λq h1 h2=>by
   have hq:q<c.scope.length:=by omega
   rw[iJ (by omega:j<c.scope.length),bnd_s,iJ hq,bnd_s,iJ (by omega:q<t.length)]
   unfold agP
   rw[xPs hj];generalize c.scope.getD q 0=u;generalize c.scope.getD j 0=z;generalize t.getD q 0=v;simp only[bnd_s]
   by_cases h3:z=u
   ·by_cases h4:x=v
    ·simp [h3,h4]
    ·simp [h3,h4]
   ·simp [h3])]
  cases (List.range' 0 j).any (agP c.scope t j)<;>rfl),xGw,h]
 unfold agB
 cases (List.range' 0 c.scope.length).any λk=>(List.range' 0 k).any (agP c.scope t k)<;>rfl
def xHr (dom:List (List Int)):List Int->List Int->Bool | v::sc,a::t=>(dom.getD v.toNat []).any (· == a) && xHr dom sc t | _,_=>true
def xMy (c:Con) (dom:List (List Int)) (p:Nat) (a:Int) (t:List Int):Bool:=(t.getD p 0==a) && (agB c.scope t && xHr dom c.scope t)
theorem tB (l:List (List Int)) (p:List Int->Bool) (f:List Int->Option Bool) (hf:∀ x∈l,f x=some (p x)):oJ l f=some (l.any p):=by
 obtain⟨i,h1,h2⟩:=uN l p f hf;have h3:kT l f=some i:=h1
 unfold oJ
 rw[h3,bnd_s,h2]
theorem ixD {dom:List (List Int)} {v:Int} (h0:0<=v) (h1:v<dom.length):ix dom v=some (dom.getD v.toNat []):=by
 refine lK h0 ?_;rw[Ao,Aa (by omega)]
 rfl
theorem xJk (dom:List (List Int)) (t:List Int) (bd:Nat->Int->Unit->Option (Ctl Unit Bool)) (hb:∀ k v,bd k v ()=(xG (ix dom v) λz1=>xG (ix t (k:Int)) λz2=>xG (vJ z1 z2) λz3=>if (!z3) then some (.ret false) else some (.go ()))):∀ (sc u:List Int) (k:Nat),t.drop k=u->u.length=sc.length->(∀ v∈sc,0<=v/\v<dom.length)->
 oM bd sc k ()=some (if xHr dom sc u then .nx () else .ret false)
 | [],_,_,_,_,_=>rfl
 | v::sc,[],k,_,h,_=>by simp at h
 | v::sc,a::u,k,hd,hl,hs=>by
  have hv:=hs v (by simp);have qc:t[k]?=some a:=(xCi hd).2.1;have qa:=hb k v;rw[ixD hv.1 hv.2,bnd_s,vE qc,bnd_s,xBx,bnd_s] at qa
  unfold xHr
  cases hh:(dom.getD v.toNat []).any (· == a) with
  | false=>rw[hh] at qa;rw[fP qa];rfl
  | true=>
   rw[hh] at qa;rw[vQ (s':=()) qa,xJk dom t bd hb sc u (k+1) (xCi hd).2.2 (by simpa using hl) (λw hw=>hs w (by simp [hw]))]
   rfl
theorem xWr (c:Con) (dom:List (List Int)) (p:Nat) (a:Int) (t:List Int) (h:t.length=c.scope.length) (hp:p<c.scope.length) (hs:∀ v∈c.scope,0<=v/\v<dom.length):fO t (p:Int) a (Con.mk c.rel c.scope) dom=some (xMy c dom p a t):=by
 unfold fO xMy
 rw[iJ (by omega),bnd_s,show(Con.mk c.rel c.scope)=c from rfl,xNw c t h,bnd_s,xJk dom t _ (λk v=>rfl) c.scope t 0 rfl h hs];generalize t.getD p 0=y;generalize xHr dom c.scope t=z;generalize agB c.scope t=u
 by_cases h1:y=a
 ·cases u<;>cases z<;>simp [h1]
 ·simp [h1]
theorem xNb {ρ:Type} (dom:List (List Int)) (c:Con) (t:List Int) (ht:t.length<=1048576):∀ (N:Nat) (sc u:List Int) (k:Nat),u.length<N->t.drop k=u->c.scope.drop k=sc->u.length=sc.length->k<=t.length->(∀ v∈sc,0<=v/\v<dom.length)->
 ∃ q, mL (σ := Bool × Int) (ρ := ρ) (λs =>match s with | (s1,s2)=>oZ (σ:=Bool) (if (decide (s2<(t.length:Int))) then   some (.nx s1) else   some (.nx false)) λs3=>if s3 then xG (ix c.scope s2) λz1=>xG (ix dom z1) λz2=>xG (ix t s2) λz3=>xG (dG z2 z3) λz4=>xG (ck (s2+1)) λz5=>some (.go (z4,z5)) else some (.brk (s1,s2))) N (true,(k:Int))=some (.nx (xHr dom sc u,q))
 | 0,_,_,_,h,_,_,_,_,_=>by omega
 | N+1,[],u,k,hN,hu,qc,hl,hk,_=>by
  have qd:u=[]:=Bw.1 hl
  have:t.length<=k:=by rw[qd] at hu;exact List.drop_eq_nil_iff.1 hu
  refine⟨(k:Int),bY ?_⟩
  have hd:decide ((k:Int)<(t.length:Int))=false:=by simp;omega
  rw[qd];simp only[hd,Af,if_false,thn_nx]
  rfl
 | N+1,v::sc,[],_,_,_,_,h,_,_=>by simp at h
 | N+1,v::sc,a::u,k,hN,hu,qc,hl,hk,hs=>by
  have hv:=hs v (by simp);have qa:=xCi hu;have qe:=xCi qc
  have hd:decide ((k:Int)<(t.length:Int))=true:=by simp;exact qa.1
  have qf:ck ((k:Int)+1)=some (((k+1:Nat)):Int):=zJ (by omega) (by omega)
  have hb : ∀ b : Bool, b = (dom.getD v.toNat []).any (· == a)->∃ q, mL (σ := Bool × Int) (ρ := ρ) (λs =>match s with | (s1,s2)=>oZ (σ:=Bool) (if (decide (s2<(t.length:Int))) then   some (.nx s1) else   some (.nx false)) λs3=>if s3 then xG (ix c.scope s2) λz1=>xG (ix dom z1) λz2=>xG (ix t s2) λz3=>xG (dG z2 z3) λz4=>xG (ck (s2+1)) λz5=>some (.go (z4,z5)) else some (.brk (s1,s2))) N (b,((k+1:Nat):Int))=some (.nx (xHr dom (v::sc) (a::u),q)):=by
   intro b qg
   unfold xHr
   rw[<- qg]
   cases b with
   | true=>
    obtain⟨q,hq⟩:=xNb (ρ:=ρ) dom c t ht N sc u (k+1) (by simp at hN;omega) qa.2.2 qe.2.2 (by simpa using hl) (by omega) (λw hw=>hs w (by simp [hw]));exact⟨q,by rw[hq];rfl⟩
   | false=>
    cases N with
    | zero=>simp at hN
    | succ N=>
     refine⟨((k+1:Nat):Int),bY ?_⟩
     by_cases h9:decide ((((k+1:Nat):Int))<(t.length:Int))=true
     ·simp only[h9,if_true,thn_nx];rfl
     ·have qh:decide ((((k+1:Nat):Int))<(t.length:Int))=false:=by simpa using h9
      simp only[qh,thn_nx];rfl
  obtain⟨q,hq⟩:=hb _ rfl;refine⟨q,?_⟩
  rw[eT (s':=((dom.getD v.toNat []).any (· == a),((k+1:Nat):Int))) (by
   simp only[hd,if_true,thn_nx,vE qe.2.1,vE qa.2.1,ixD hv.1 hv.2,xGq,qf,bnd_s]),hq]
theorem xWx {ρ:Type} (c:Con) (dom:List (List Int)) (p:Nat) (a:Int) (t:List Int) (h:t.length=c.scope.length) (hp:p<c.scope.length) (hs:∀ v∈c.scope,0<=v/\v<dom.length) (hN:t.length<N) (hl:t.length<=1048576) (b:Bool) (hb:b=((t.getD p 0==a) && agB c.scope t)) :
 ∃ q, mL (σ := Bool × Int) (ρ := ρ) (λs =>match s with | (s1,s2)=>oZ (σ:=Bool) (if (decide (s2<(t.length:Int))) then   some (.nx s1) else   some (.nx false)) λs3=>if s3 then xG (ix c.scope s2) λz1=>xG (ix dom z1) λz2=>xG (ix t s2) λz3=>xG (dG z2 z3) λz4=>xG (ck (s2+1)) λz5=>some (.go (z4,z5)) else some (.brk (s1,s2))) N (b,0)=some (.nx (xMy c dom p a t,q)):=by
 unfold xMy
 rw[<- Bool.and_assoc,<- hb]
 cases b with
 | true=>
  obtain⟨q,hq⟩:=xNb (ρ:=ρ) dom c t hl N c.scope t 0 hN rfl rfl h (Dc _) hs;exact⟨q,by rw[Db];exact hq⟩
 | false=>
  cases N with
  | zero=>omega
  | succ N=>
   refine⟨0,bY ?_⟩
   by_cases h9:decide ((0:Int)<(t.length:Int))=true
   ·simp only[h9,if_true,thn_nx];rfl
   ·have qa:decide ((0:Int)<(t.length:Int))=false:=by simpa using h9
    simp only[qa,thn_nx];rfl
structure ConOk (x:A6) (c:Con) (n:Nat):Prop where
  rel:∃ r,ix x.rels c.rel=some r/\∀ t∈r.tuples,t.length=c.scope.length
  sc:∀ v∈c.scope,0<=v/\v<(n:Int)
  four:c.scope.length<=4
def xQo (x:A6) (c:Con) (dom:List (List Int)) (p:Nat) (a:Int):Bool:=((ix x.rels c.rel).getD default).tuples.any (xMy c dom p a)
theorem xSm {x:A6} {c:Con} {dom:List (List Int)} {p:Nat} (a:Int) (hN:10<=N) (hc:ConOk x c dom.length) (hp:p<c.scope.length):cB x c dom (p:Int) a=some (xQo x c dom p a)/\cC N x c dom (p:Int) a=some (xQo x c dom p a):=by
 obtain⟨r,hr,hT⟩:=hc.rel;have h4:=hc.four
 have hb:xQo x c dom p a=r.tuples.any (xMy c dom p a):=by unfold xQo;rw[hr];rfl
 rw[hb];refine⟨?_,?_⟩
 ·unfold cB
  rw[hr,bnd_s,tB _ (xMy c dom p a) _ (λt ht=>xWr c dom p a t (hT t ht) hp hc.sc),bnd_s]
 ·unfold cC
  rw[hr,bnd_s,dC (λ_ t=>if xMy c dom p a t then some true else none) (λj t hj=>by
   have hl:=hT t (Ae hj)
   have hw:oZ (σ:=Bool) (ρ:=Ctl Unit Bool) (xG (ix t (p:Int)) λz1=>if (z1==a) then xG (gJ c t) λz2=>some (.nx z2) else some (.nx false))=λk=>k ((t.getD p 0==a) && agB c.scope t):=by
    funext k
    rw[iJ (by omega),bnd_s,xQg c t hl,bnd_s];generalize t.getD p 0=y
    by_cases h1:y=a
    ·simp [h1]
    ·have h2:(y==a)=false:=by simpa using h1
     simp [h2]
   simp only[hw];obtain⟨q,hq⟩:=xWx (N:=N) (ρ:=Ctl Unit Bool) c dom p a t hl hp hc.sc (by omega) (by omega) _ rfl;rw[hq,thn_nx]
   cases xMy c dom p a t<;>rfl),tE]
  cases r.tuples.any (xMy c dom p a)<;>rfl
end
section
variable {dom:List (List Int)} {N:Nat} {T:Nat} {B:Nat} {x:A6} {d:List Int}
theorem xKe {α σ σ' ρ ρ':Type} {f:Nat->α->σ->Option (Ctl σ ρ)} {g:Nat->α->σ'->Option (Ctl σ' ρ')} (R:Nat->σ->σ'->Prop) (Q:ρ->ρ'->Prop):∀ (l:List α) (k:Nat) (s:σ) (s':σ'),R k s s'->
 (∀ j x s s',l[j]?=some x->R (k+j) s s'->(∃ t t',f (k+j) x s=some (.go t)/\g (k+j) x s'=some (.go t')/\R (k+j+1) t t')∨(∃ r r',f (k+j) x s=some (.ret r)/\g (k+j) x s'=some (.ret r')/\Q r r'))->
 (∃ t t',oM f l k s=some (.nx t)/\oM g l k s'=some (.nx t')/\R (k+l.length) t t')∨(∃ r r',oM f l k s=some (.ret r)/\oM g l k s'=some (.ret r')/\Q r r')
 | [],_,s,s',h,_=>.inl ⟨s,s',rfl,rfl,h⟩
 | x::l,k,s,s',h,hh=>by
  rcases hh 0 x s s' rfl h with ⟨t,t',h1,h2,h3⟩ | ⟨r,r',h1,h2,h3⟩
  ·rw[Cb] at h1 h2 h3
   rw[vQ h1,vQ h2]
   have:=xKe R Q l (k+1) t t' h3 (λj y s s' hj hr=>by
    rw[Dq,Ef 1 j] at hr ⊢
    exact hh (j+1) y s s' hj hr)
   rw[Am,Ef l.length 1,<- Dq];exact this
  ·rw[Cb] at h1 h2
   exact .inr ⟨r,r',fP h1,fP h2,h3⟩
theorem xUn {σ σ' ρ ρ':Type} {f:σ->Option (Ctl σ ρ)} {g:σ'->Option (Ctl σ' ρ')} (R:σ->σ'->Prop) (E:σ->σ'->Prop) (Q:ρ->ρ'->Prop) (μ:σ->Nat) (hh:∀ s s',R s s'->(∃ t t',f s=some (.go t)/\g s'=some (.go t')/\R t t'/\μ t<μ s)∨(∃ t t',f s=some (.brk t)/\g s'=some (.brk t')/\E t t')∨(∃ r r',f s=some (.ret r)/\g s'=some (.ret r')/\Q r r')) : ∀ (N:Nat) (s:σ) (s':σ'),μ s<N->R s s'->(∃ t t',mL f N s=some (.nx t)/\mL g N s'=some (.nx t')/\E t t')∨(∃ r r',mL f N s=some (.ret r)/\mL g N s'=some (.ret r')/\Q r r')
 | 0,_,_,h,_=>by omega
 | N+1,s,s',hN,h=>by
  rcases hh s s' h with ⟨t,t',h1,h2,h3,h4⟩ | ⟨t,t',h1,h2,h3⟩ | ⟨r,r',h1,h2,h3⟩
  ·rw[eT h1,eT h2]
   exact xUn R E Q μ hh N t t' (by omega) h3
  ·exact .inl ⟨t,t',bY h1,bY h2,h3⟩
  ·exact .inr ⟨r,r',wP h1,wP h2,h3⟩
def tot (dom:List (List Int)):Nat:=(dom.map List.length).sum
theorem xPa:∀ (dom:List (List Int)) (i:Nat) (d w:List Int),dom[i]?=some d->tot (dom.set i w)+d.length=tot dom+w.length
 | [],i,d,w,h=>by simp at h
 | x::r,0,d,w,h=>by
  simp at h;subst h
  simp [tot];omega
 | x::r,i+1,d,w,h=>by
  have:=xPa r i d w (by simpa using h)
  simp [tot] at this ⊢
  omega
theorem xDg (h:d∈dom):d.length<=tot dom:=by
 induction dom with
 | nil=>cases h
 | cons x r ih=>
  simp only[tot,Da,List.sum_cons]
  rcases Av.1 h with rfl | h
  ·omega
  ·have:=ih h;unfold tot at this;omega
structure DomOk (n T:Nat) (dom:List (List Int)):Prop where
  len:dom.length=n
  nd:∀ d∈dom,d.Nodup
  le:tot dom<=T
theorem xSc {l:List Int} {a:Int} (h:a∈l):(l.filter (· != a)).length<l.length:=by
 induction l with
 | nil=>cases h
 | cons x r ih=>
  rw[Dv]
  by_cases hx:x=a
  ·subst hx
   have:=Et (· != x) r
   simp;omega
  ·have qa:(x != a)=true:=by simp [hx]
   rw[if_pos qa]
   rcases Av.1 h with h | h
   ·exact absurd h.symm hx
   ·have:=ih h;simp;omega
theorem oCq {i:Nat} {w:List Int} (h:d∈dom.set i w):d∈dom∨d=w:=Cx h
theorem DomOk.set {n:Nat} (h:DomOk n T dom) {i:Nat} {w:List Int} (hd:dom[i]?=some d) (hw:w.Nodup) (hl:w.length<=d.length):DomOk n T (dom.set i w):=by
 refine⟨by simp [h.len],λe he=>(oCq he).elim (h.nd e) (λe'=>e' ▸ hw),?_⟩;have:=xPa dom i d w hd;have:=h.le
 omega
structure PInv (K:List (List Int)->Prop) (n B T:Nat) (D:List (List Int)->Prop) (dom:List (List Int)) (out:List B3) (ch:Bool):Prop where
  ok:DomOk n T dom
  sum:out.length+tot dom<=T
  ge:B<=out.length
  yes:ch=true->B<out.length
  no:ch=false->out.length=B
  k:K dom
  con:ch=false->D dom
theorem PInv.mono {K D D':List (List Int)->Prop} {n:Nat} {out:List B3} {ch:Bool} (h:PInv K n B T D dom out ch) (hd:D dom->D' dom):PInv K n B T D' dom out ch:=⟨h.ok,h.sum,h.ge,h.yes,h.no,h.k,λe=>hd (h.con e)⟩
def xYr (K:List (List Int)->Prop) (x:A6) (c:Con) (p:Nat) (v:Int):Prop:=∀ dom a,K dom->xQo x c dom p a=false->K (dom.set v.toNat ((dom.getD v.toNat []).filter (· != a)))
theorem xZn {K D:List (List Int)->Prop} {c:Con} {n kc p:Nat} {v a:Int} {out:List B3} {ch:Bool} (hN:10<=N) (hNT:T<N) (hT:T<=1048576) (hc:ConOk x c n) (hp:p<c.scope.length) (hv:0<=v/\v<(n:Int)) (hK:xYr K x c p v) (I:PInv K n B T D dom out ch) (ha:a∈dom.getD v.toNat []) :
 ∃ b,xQo x c dom p a=b/\cB (A6.mk x.size x.rels) (Con.mk c.rel c.scope) dom (p:Int) a=some b/\cC N x c dom (p:Int) a=some b/\(b=false->∃ d w out',ix dom v=some d/\dom[v.toNat]?=some d/\w=d.filter (· != a)/\fX N d a=some w/\cE d a=some w/\out'=out++[B3.mk v a (kc:Int)]/\ap out [B3.mk v a (kc:Int)]=some out'/\∀ D',PInv K n B T D' (dom.set v.toNat w) out' true):=by
 have hl:=I.ok.len;obtain⟨h1,h2⟩:=xSm (N:=N) (dom:=dom) a hN (hl.symm ▸ hc) hp;refine⟨_,rfl,h1,h2,λhb=>?_⟩;have hk:=hK dom a I.k hb
 have qe:v.toNat<dom.length:=by omega
 have qa:dom[v.toNat]?=some (dom.getD v.toNat []):=by rw[Ao,Aa qe];rfl
 obtain⟨d,hd⟩:∃ d,d=dom.getD v.toNat []:=⟨_,rfl⟩;rw[<- hd] at ha qa hk;have qd:d∈dom:=Ae qa;have hdl:=xDg qd;have hle:=I.ok.le;have hsum:=I.sum;have hless:=xSc ha;have hset:=xPa dom v.toNat d (d.filter (· != a)) qa;have qf:DomOk n T (dom.set v.toNat (d.filter (· != a))):=I.ok.set qa ((I.ok.nd d qd).filter _) (by omega)
 have qc:(out++[B3.mk v a (kc:Int)]).length+tot (dom.set v.toNat (d.filter (· != a)))<=T:=by
  rw[Aq,Ak];omega
 have hB:B<(out++[B3.mk v a (kc:Int)]).length:=by rw[Aq,Ak];have:=I.ge;omega
 exact⟨d,_,_,by rw[ixD hv.1 (by omega),<- hd],qa,rfl,xTj d a (by omega) (by omega),xMu d a (by omega),rfl,kX (by simp only[Am,Bi];omega),λD'=>⟨qf,qc,by omega,λ_=>hB,(λh=>nomatch h),hk,λh=>nomatch h⟩⟩
def Sup (x:A6) (c:Con) (p:Nat) (v:Int) (dom:List (List Int)):Prop:=∀ a∈dom.getD v.toNat [],xQo x c dom p a=true
theorem xSw {K D:List (List Int)->Prop} {c:Con} {n kc p:Nat} {v:Int} {ρ ρ':Type} (hN:10<=N) (qf:T<N) (hT:T<=1048576) (hc:ConOk x c n) (hp:p<c.scope.length) (hv:0<=v/\v<(n:Int)) (hK:xYr K x c p v)
 {f:Nat->Int->List B3×Bool×List (List Int)->Option (Ctl (List B3×Bool×List (List Int)) ρ)} {g:Nat->Int->List B3×List (List Int)->Option (Ctl (List B3×List (List Int)) ρ')} (F:List B3×List (List Int)->ρ) (G:List B3×List (List Int)->ρ')
 (hf:∀ k a out ch dom,f k a (out,ch,dom)=xG (cB (A6.mk x.size x.rels) (Con.mk c.rel c.scope) dom (p:Int) a) λz=>if z then some (.go (out,ch,dom)) else xG (ix dom v) λz1=>xG (fX N z1 a) λz2=>xG (ap out [B3.mk v a (kc:Int)]) λz3=>xG (iP) λz4=>if z4 then some (.ret (F (z3,dom.set v.toNat z2))) else some (.go (z3,true,dom.set v.toNat z2)))
 (hg:∀ k a out dom,g k a (out,dom)=xG (cC N x c dom (p:Int) a) λz=>if (!z) then xG (ix dom v) λz1=>xG (cE z1 a) λz2=>xG (ap out [B3.mk v a (kc:Int)]) λz3=>oZ (σ:=Bool) (if false then xG (ix (dom.set v.toNat z2) v) λz4=>some (.nx ((z4.length:Int)==0)) else some (.nx false)) λs=>if s then some (.ret (G (z3,dom.set v.toNat z2))) else some (.go (z3,dom.set v.toNat z2)) else some (.go (out,dom)))
 (dom:List (List Int)) (out:List B3) (ch:Bool) (I:PInv K n B T D dom out ch) :
 ∃ out' ch' dom',oM f (dom.getD v.toNat []) 0 (out,ch,dom)=some (.nx (out',ch',dom'))/\oM g (dom.getD v.toNat []) 0 (out,dom)=some (.nx (out',dom'))/\PInv K n B T (λd=>D d/\Sup x c p v d) dom' out' ch':=by
 obtain⟨left,qa⟩:∃ l,l=dom.getD v.toNat []:=⟨_,rfl⟩
 have qg:left.Nodup:=by
  rw[qa]
  have qc:v.toNat<dom.length:=by have:=I.ok.len;omega
  rw[Ao,Aa qc];exact I.ok.nd _ (Bn qc)
 rw[<- qa]
 rcases xKe (f:=f) (g:=g) (λk s s'=>s'=(s.1,s.2.2)/\PInv K n B T (λd=>D d/\d.getD v.toNat []=left/\∀ a∈left.take k,xQo x c d p a=true) s.2.2 s.1 s.2.1/\∀ a∈left.drop k,a∈s.2.2.getD v.toNat []) (λr r'=>False) left 0 (out,ch,dom) (out,dom) ⟨rfl,I.mono (λh=>⟨h,qa.symm,λa ha=>by simp at ha⟩),λa ha=>by rw[<- qa];simpa using ha⟩ (λj a s s' hj hR=>by
  obtain⟨qh,I',qd⟩:=hR;obtain⟨o,c',dm⟩:=s;subst qh;rw[Bj] at qd ⊢;have hd:=oEl hj
  have qi:a∈left.drop j:=by rw[hd];simp
  obtain⟨b,h0,h1,h2,h3⟩:=xZn (kc:=kc) hN qf hT hc hp hv hK I' (qd a qi)
  cases b with
  | true=>
   refine .inl ⟨(o,c',dm),(o,dm),by rw[hf,h1,bnd_s,if_pos rfl],by rw[hg,h2,bnd_s];rfl,rfl,I'.mono (λh=>⟨h.1,h.2.1,λe he=>?_⟩),λe he=>qd e ?_⟩
   ·rw[List.take_add_one,hj] at he
    rcases Ar.1 he with he | he
    ·exact h.2.2 e (by rw[Bj];exact he)
    ·simp only[Option.toList,Bd] at he
     rw[he];exact h0
   ·rw[hd];simp [he]
  | false=>
   obtain⟨d,w,o',q1,q2,q3,q4,q5,q6,q7,q13⟩:=h3 rfl
   have ef:f j a (o,c',dm)=some (.go (o',true,dm.set v.toNat w)):=by
    rw[hf,h1,bnd_s,if_neg (by simp),q1,bnd_s,q4,bnd_s,q7,bnd_s];rfl
   have eg:g j a (o,dm)=some (.go (o',dm.set v.toNat w)):=by
    rw[hg,h2,bnd_s];simp only[Cl,if_true,q1,q5,q7,bnd_s,thn_nx,Af,if_false]
   refine .inl ⟨_,_,ef,eg,rfl,q13 _,λe he=>?_⟩
   have qc:v.toNat<dm.length:=by have:dm.length=n:=I'.ok.len;omega
   show e∈(dm.set v.toNat w).getD v.toNat []
   rw[Ao,Al qc,Eb,q3,Cz]
   have qe:(a::left.drop (j+1)).Nodup:=by rw[<- hd];exact qg.sublist (List.drop_sublist _ _)
   have qj:e≠a:=λh=>(List.nodup_cons.1 qe).1 (h ▸ he);have h7:=qd e (by rw[hd];simp [he]);rw[Ao,q2,Eb] at h7
   exact⟨h7,by simpa using qj⟩) with ⟨t,t',h1,h2,h3,h4,_⟩ | ⟨r,r',h1,h2,h3⟩
 ·obtain⟨o,c',dm⟩:=t
  exact⟨o,c',dm,h1,by rw[h2,h3],h4.mono (λh=>⟨h.1,λa ha=>by rw[h.2.1] at ha;exact h.2.2 a (by rw[Bj,List.take_length];exact ha)⟩)⟩
 ·exact h3.elim
def cG {α β:Type} (a:Option α) (b:Option β) (P:α->β->Prop):Prop:=∃ x y,a=some x/\b=some y/\P x y
def xVw {σ σ' ρ ρ':Type} (R:σ->σ'->Prop) (Q:ρ->ρ'->Prop):Out σ ρ->Out σ' ρ'->Prop | .nx s,.nx s'=>R s s' | .ret r,.ret r'=>Q r r' | _,_=>False
def oHx {σ σ' ρ ρ':Type} (R E:σ->σ'->Prop) (Q:ρ->ρ'->Prop):Ctl σ ρ->Ctl σ' ρ'->Prop | .go s,.go s'=>R s s' | .brk s,.brk s'=>E s s' | .ret r,.ret r'=>Q r r' | _,_=>False
section
variable {α β γ δ σ σ' ρ ρ':Type} {P:γ->δ->Prop}
theorem cG.s {a:γ} {b:δ} (h:P a b):cG (some a) (some b) P:=⟨a,b,rfl,rfl,h⟩
theorem cG.mono {P':γ->δ->Prop} {a:Option γ} {b:Option δ} (h:cG a b P) (k:∀ x y,P x y->P' x y):cG a b P':=let ⟨x,y,h1,h2,h3⟩:=h;⟨x,y,h1,h2,k x y h3⟩
theorem cG.l {o:Option α} {k:α->Option γ} {b:Option δ} {a:α} (h:o=some a) (hk:cG (k a) b P):cG (Go.Proofs.YtnjlbbfcngjhmaaGreat.xG o k) b P:=by rw[h];exact hk
theorem cG.r {o:Option α} {k:α->Option δ} {b:Option γ} {a:α} (h:o=some a) (hk:cG b (k a) P):cG b (Go.Proofs.YtnjlbbfcngjhmaaGreat.xG o k) P:=by rw[h];exact hk
theorem cG.thn (R:σ->σ'->Prop) (Q:γ->δ->Prop) {o:Option (Out σ γ)} {o':Option (Out σ' δ)} {k:σ->Option γ} {k':σ'->Option δ} (h:cG o o' (xVw R Q)) (hk:∀ a b,R a b->cG (k a) (k' b) P) (hq:∀ a b,Q a b->P a b):cG (oZ o k) (oZ o' k') P:=by
 obtain⟨a,b,rfl,rfl,h⟩:=h
 cases a<;>cases b<;>first | exact hk _ _ h | exact cG.s (hq _ _ h) | exact h.elim
theorem cG.forL (R:Nat->σ->σ'->Prop) (Q:ρ->ρ'->Prop) {f:Nat->α->σ->Option (Ctl σ ρ)} {g:Nat->α->σ'->Option (Ctl σ' ρ')} {l:List α} {k:Nat} {s:σ} {s':σ'} (h:R k s s') (hh:∀ j x s s',l[j]?=some x->R (k+j) s s'->cG (f (k+j) x s) (g (k+j) x s') (oHx (R (k+j+1)) (λ_ _=>False) Q)):cG (oM f l k s) (oM g l k s') (xVw (R (k+l.length)) Q):=by
 rcases xKe R Q l k s s' h (λj x s s' hj hr=>by
  obtain⟨a,b,h1,h2,h3⟩:=hh j x s s' hj hr
  cases a<;>cases b<;>first | exact .inl ⟨_,_,h1,h2,h3⟩ | exact .inr ⟨_,_,h1,h2,h3⟩ | exact h3.elim) with ⟨t,t',h1,h2,h3⟩ | ⟨r,r',h1,h2,h3⟩
 ·exact⟨_,_,h1,h2,h3⟩
 ·exact⟨_,_,h1,h2,h3⟩
theorem cG.whl (R:σ->σ'->Prop) (E:σ->σ'->Prop) (Q:ρ->ρ'->Prop) (μ:σ->Nat) {f:σ->Option (Ctl σ ρ)} {g:σ'->Option (Ctl σ' ρ')} {s:σ} {s':σ'} (hN:μ s<N) (h:R s s') (hh:∀ s s',R s s'->cG (f s) (g s') (oHx (λt t'=>R t t'/\μ t<μ s) E Q)):cG (mL f N s) (mL g N s') (xVw E Q):=by
 rcases xUn R E Q μ (λs s' hr=>by
  obtain⟨a,b,h1,h2,h3⟩:=hh s s' hr
  cases a<;>cases b<;>first | exact .inl ⟨_,_,h1,h2,h3.1,h3.2⟩ | exact .inr (.inl ⟨_,_,h1,h2,h3⟩) | exact .inr (.inr ⟨_,_,h1,h2,h3⟩) | exact h3.elim) N s s' hN h with ⟨t,t',h1,h2,h3⟩ | ⟨r,r',h1,h2,h3⟩
 ·exact⟨_,_,h1,h2,h3⟩
 ·exact⟨_,_,h1,h2,h3⟩
end
theorem oCv {K D:List (List Int)->Prop} {c:Con} {n kc p:Nat} {v:Int} {ρ ρ':Type} (hN:10<=N) (qa:T<N) (hT:T<=1048576) (hc:ConOk x c n) (hp:p<c.scope.length) (hv:0<=v/\v<(n:Int)) (hK:xYr K x c p v) {f:Nat->Int->List B3×Bool×List (List Int)->Option (Ctl (List B3×Bool×List (List Int)) ρ)} {g:Nat->Int->List B3×List (List Int)->Option (Ctl (List B3×List (List Int)) ρ')} (F:List B3×List (List Int)->ρ) (G:List B3×List (List Int)->ρ') (hf:∀ k a out ch dom,f k a (out,ch,dom)=xG (cB (A6.mk x.size x.rels) (Con.mk c.rel c.scope) dom (p:Int) a) λz=>if z then some (.go (out,ch,dom)) else xG (ix dom v) λz1=>xG (fX N z1 a) λz2=>xG (ap out [B3.mk v a (kc:Int)]) λz3=>xG (iP) λz4=>if z4 then some (.ret (F (z3,dom.set v.toNat z2))) else some (.go (z3,true,dom.set v.toNat z2))) (hg:∀ k a out dom,g k a (out,dom)=xG (cC N x c dom (p:Int) a) λz=>if (!z) then xG (ix dom v) λz1=>xG (cE z1 a) λz2=>xG (ap out [B3.mk v a (kc:Int)]) λz3=>oZ (σ:=Bool) (if false then xG (ix (dom.set v.toNat z2) v) λz4=>some (.nx ((z4.length:Int)==0)) else some (.nx false)) λs=>if s then some (.ret (G (z3,dom.set v.toNat z2))) else some (.go (z3,dom.set v.toNat z2)) else some (.go (out,dom))) (dom:List (List Int)) (out:List B3) (ch:Bool) (I:PInv K n B T D dom out ch) : cG (oM f (dom.getD v.toNat []) 0 (out,ch,dom)) (oM g (dom.getD v.toNat []) 0 (out,dom)) (xVw (λs s'=>s'=(s.1,s.2.2)/\PInv K n B T (λd=>D d/\Sup x c p v d) s.2.2 s.1 s.2.1) (λ_ _=>False)):=by
 obtain⟨o3,c3,d3,h1,h2,h3⟩:=xSw hN qa hT hc hp hv hK F G hf hg dom out ch I;exact⟨_,_,h1,h2,rfl,h3⟩
theorem xYo {ρ : Type} (dom : List (List Int)) (r : ρ) (hN : 0 < N) {b : Bool} (hb : b = false) : mL (σ := Int) (ρ := ρ) (λs1 =>oZ (σ:=Bool) (if (decide (s1<(dom.length:Int))) then   some (.nx b) else   some (.nx false)) λs2=>if s2 then xG (ix dom s1) λz1=>if ((z1.length:Int)==0) then some (.ret r) else xG (ck (s1+1)) λz2=>some (.go z2) else some (.brk s1)) N 0=some (.nx 0):=by
 subst hb;obtain⟨M,rfl⟩:∃ M,N=M+1:=⟨N - 1,by omega⟩;refine bY ?_
 by_cases h:(decide ((0:Int)<(dom.length:Int)))=true
 ·simp only[h,if_true,thn_nx,Af,if_false]
 ·have h':(decide ((0:Int)<(dom.length:Int)))=false:=by simpa using h
  simp only[h',thn_nx,Af,if_false]
def xOr (x:A6) (y:A7) (k:Nat) (dom:List (List Int)):Prop:=∀ c∈y.cons.take k,∀ p v,c.scope[p]?=some v->Sup x c p v dom
theorem oAn {K:List (List Int)->Prop} {y:A7} {n:Nat} (hK:∀ c∈y.cons,∀ p v,c.scope[p]?=some v->xYr K x c p v) (qm:K dom) (hN:10<=N) (hy:∀ c∈y.cons,ConOk x c n) (qd:DomOk n (tot dom) dom) (hT:tot dom<=1000) (qn:tot dom+1<N) (hn:n<=1000) (hNn:n<N) :
 cG (gG N x y dom (λ_=>iP)) (gB N x y dom false) (λr r'=>r=r'/\DomOk n (tot dom) r.2/\r.1.length+tot r.2<=tot dom/\K r.2/\xOr x y y.cons.length r.2):=by
 obtain⟨T,qg⟩:∃ T,T=tot dom:=⟨_,rfl⟩;rw[<- qg] at qd hT qn ⊢;have hlen:=qd.len
 unfold gG gB
 rw[xYo dom _ (by omega) rfl,thn_nx];refine cG.thn (λt t'=>t'.1=t.1/\t'.2.2=t.2.2/\DomOk n T t.2.2/\t.1.length+tot t.2.2<=T/\K t.2.2/\xOr x y y.cons.length t.2.2) (λr r'=>False) (cG.whl (λs s'=>∃ bf:Int,s'=(s.1,bf,s.2.2)/\(s.2.1=true↔bf≠(s.1.length:Int))/\DomOk n T s.2.2/\s.1.length+tot s.2.2<=T/\K s.2.2/\(s.2.1=false->xOr x y y.cons.length s.2.2)) _ _ (λs=>tot s.2.2+(if s.2.1 then 1 else 0)) ?_ ⟨-1,rfl,⟨λ_=>by simp,λ_=>rfl⟩,qd,by simp [qg],qm,λh=>nomatch h⟩ (λs s' hR=>?_)) (λt t' h=>?_) (λr r' h=>h.elim)
 ·simp only[if_true];omega
 ·obtain⟨out,ch,dm⟩:=s
  obtain⟨bf,rfl,hb,ok,hs,hk,qh⟩:=hR;simp only at hb ok hs hk qh ⊢
  cases ch with
  | false=>
   have qo:bf=(out.length:Int):=by
    by_cases h:bf=(out.length:Int)
    ·exact h
    ·exact absurd (hb.2 h) (by simp)
   rw[if_neg (by simp),if_neg (by simp [qo])];exact cG.s ⟨rfl,rfl,ok,hs,hk,qh rfl⟩
  | true=>
   have I0:PInv K n out.length (out.length+tot dm) (xOr x y 0) dm out false:=⟨⟨ok.len,ok.nd,by omega⟩,Az _,Az _,(λh=>nomatch h),(λ_=>rfl),hk,λ_ c hc=>by simp at hc⟩;have qi:out.length+tot dm<=T:=hs;obtain⟨T2,qe⟩:∃ T2,T2=out.length+tot dm:=⟨_,rfl⟩;rw[<- qe] at I0 qi;rw[if_pos rfl,if_pos (by simpa using hb.1 rfl)];refine cG.thn (λs s'=>s'=(s.1,s.2.2)/\PInv K n out.length T2 (xOr x y y.cons.length) s.2.2 s.1 s.2.1) (λr r'=>False) (cG.mono (cG.forL (λk s s'=>s'=(s.1,s.2.2)/\PInv K n out.length T2 (xOr x y k) s.2.2 s.1 s.2.1) (λr r'=>False) ⟨rfl,I0⟩ (λj c s s' hj hR=>?_)) (λa b h=>by rw[Bj] at h;exact h)) (λa b h=>?_) (λr r' h=>h.elim)
   ·obtain⟨o1,c1,d1⟩:=s
    obtain⟨rfl,I1⟩:=hR;have qj:=Ae hj;have hc:=hy c qj;rw[Bj] at I1 ⊢;refine cG.thn (λs s'=>s'=(s.1,s.2.2)/\PInv K n out.length T2 (xOr x y (j+1)) s.2.2 s.1 s.2.1) (λr r'=>False) (cG.mono (cG.forL (λk s s'=>s'=(s.1,s.2.2)/\PInv K n out.length T2 (λd=>xOr x y j d/\∀ p v,p<k->c.scope[p]?=some v->Sup x c p v d) s.2.2 s.1 s.2.1) (λr r'=>False) ⟨rfl,I1.mono (λh=>⟨h,λp v hp=>by omega⟩)⟩ (λp v s s' hp hR=>?_)) (λa b h=>?_)) (λa b h=>?_) (λr r' h=>h.elim)
    ·obtain⟨o2,c2,d2⟩:=s
     obtain⟨rfl,I2⟩:=hR;simp only at I2 ⊢;have qp:p<c.scope.length:=(Ac.1 hp).1;have hv:=hc.sc v (Ae hp);have hl2:=I2.ok.len
     have qk:v.toNat<d2.length:=by omega
     have ql:(d2.getD v.toNat []).length<=1048576:=by
      have h9:d2.getD v.toNat []∈d2:=by rw[Ao,Aa qk];exact Bn qk
      have:=xDg h9;have:=I2.ok.le
      omega
     refine cG.l (ixD hv.1 (by omega)) (cG.r (ixD hv.1 (by omega)) (cG.l (xRk _ ql) (cG.r (own_eq _ ql) ?_)));rw[Bj] at I2 ⊢;refine cG.thn (λs s'=>s'=(s.1,s.2.2)/\PInv K n out.length T2 (λd=>(xOr x y j d/\∀ p' v,p'<p->c.scope[p']?=some v->Sup x c p' v d)/\Sup x c p v d) s.2.2 s.1 s.2.1) (λr r'=>False) ?_ (λa b h=>?_) (λr r' h=>h.elim)
     ·refine cG.mono (oCv (kc:=j) (B:=out.length) hN (show T2<N by omega) (by omega) hc qp hv (hK c qj p v hp) (λq=>Ctl.ret (Ctl.ret (Ctl.ret q))) (λq=>Ctl.ret (Ctl.ret (Ctl.ret q))) ?_ ?_ d2 o2 c2 I2) (λa b h=>h)
      ·intro _ _ _ _ _;rfl
      ·intro _ _ _ _;rfl
     ·obtain⟨o3,c3,d3⟩:=a
      obtain⟨rfl,h⟩:=h;refine cG.s ⟨rfl,h.mono (λh=>⟨h.1.1,λp' v' hp' qf=>?_⟩)⟩
      by_cases e:p'=p
      ·subst e
       rw[hp] at qf
       cases qf
       exact h.2
      ·exact h.1.2 p' v' (by omega) qf
    ·cases a<;>cases b<;>first | exact⟨h.1,h.2.mono (λh c' qa=>by
      rw[List.take_add_one,hj] at qa
      rcases Ar.1 qa with qa | qa
      ·exact h.1 c' qa
      ·simp only[Option.toList,Bd] at qa
       subst qa
       exact λp v hp=>h.2 p v (by rw[Bj];exact(Ac.1 hp).1) hp)⟩ | exact h
    ·obtain⟨o3,c3,d3⟩:=a
     obtain⟨rfl,h⟩:=h;exact cG.s ⟨rfl,h⟩
   ·obtain⟨o3,c3,d3⟩:=a
    obtain⟨rfl,h⟩:=h;have h6:=h.sum;have h7:=h.ge;simp only at h h6 h7 ⊢;refine cG.s ⟨⟨(out.length:Int),rfl,?_,⟨h.ok.len,h.ok.nd,Cj h.ok.le qi⟩,(show o3.length+tot d3<=T by omega),h.k,h.con⟩,?_⟩
    ·constructor
     ·intro hc;have:=h.yes hc;show(out.length:Int)≠(o3.length:Int);omega
     ·intro hc
      change (out.length:Int)≠(o3.length:Int) at hc
      cases qc:c3 with
      | true=>rfl
      | false=>have:=h.no qc;exact absurd (by omega) hc
    ·cases qc:c3 with
     | true=>have:=h.yes qc;simp only[if_true];omega
     | false=>have:=h.no qc;simp only[Af,if_false,if_true];omega
 ·obtain⟨h1,h2,h3,h4,h5⟩:=h
  obtain⟨o,c,d⟩:=t;obtain⟨o',c',d'⟩:=t';simp only at h1 h2 h3 h4 h5 ⊢;subst h1 h2;exact cG.s ⟨rfl,h3,h4,h5⟩
end
section
theorem fG (a lo hi:Int):aU a lo hi=some (decide (lo<=a) && decide (a<=hi)):=by
 unfold aU
 by_cases h:lo<=a
 ·simp [h]
 ·simp [h]
theorem dV (a lo hi:Int):zZ a lo hi=some (decide (lo<=a) && decide (a<=hi)):=fG a lo hi
def okS (s:Int):Bool:=decide (1<=s) && decide (s<=4)
def okV (s a:Int):Bool:=decide (0<=a) && decide (a<=s - 1)
def xAb (s:Int) (t:List Int) (ar:Int):Bool:=((t.length:Int)==ar) && t.all (okV s)
theorem xQb {s:Int} (h:okS s=true):1<=s/\s<=4:=by simpa [okS] using h
theorem xGo (s:Int):mD s=some (okS s):=by unfold mD;rw[fG];rfl
theorem xTd (s:Int):rA s=some (okS s):=by unfold rA;rw[fG];rfl
theorem xDs (s:Int):cU s=some (okS s):=by unfold cU;rw[dV];rfl
theorem xRz (s:Int):nM s=some (okS s):=by unfold nM;rw[dV];rfl
theorem ckS {s:Int} (h:okS s=true):ck (s - 1)=some (s - 1):=by have:=xQb h;exact zJ (by omega) (by omega)
theorem xKg {s:Int} (h:okS s=true) (a:Int):dX s a=some (okV s a):=by
 unfold dX
 rw[ckS h,bnd_s,fG]
 rfl
theorem xQt {s:Int} (h:okS s=true) (ar:Int) (t:List Int):lG s ar t=some (xAb s t ar):=by
 unfold lG
 rw[dC (λ_ x=>if !okV s x then some false else none) (λj x hj=>by
  simp only[ckS h,bnd_s,dV]
  show(if (!okV s x)=true then _ else _)=_
  by_cases hv:okV s x=true
  ·simp [hv,xAn]
  ·simp [hv,xAn])]
 rw[tE]
 unfold xAb
 by_cases ha:t.all (okV s)=true
 ·have:t.any (λx=>!okV s x)=false:=by simpa using ha
  rw[this,ha]
  simp [xIf]
 ·have qa:t.all (okV s)=false:=by simpa using ha
  have:t.any (λx=>!okV s x)=true:=by simpa using qa
  rw[this,qa]
  simp [xIf]
theorem xVh (l:List Int) (p:Int->Bool) (f:Int->Option Bool) (hf:∀ x,f x=some (p x)):∃ i,qA l f=some i/\decide (0<=i)=l.any p:=by
 unfold qA
 rw[dC (λk x=>if p x then some (k:Int) else none) (λj x hj=>by
  simp only[hf,bnd_s]
  by_cases hv:p x=true
  ·simp [hv,xAn]
  ·simp [hv,xAn])]
 have key:∀ (l:List Int) (k:Nat),(l.any p=true/\∃ i:Nat,fnd (λk x=>if p x then some (k:Int) else none) l k=some (i:Int))∨(l.any p=false/\fnd (λk x=>if p x then some (k:Int) else none) l k=none):=by
  intro l
  induction l with
  | nil=>intro k;exact .inr ⟨rfl,rfl⟩
  | cons x l ih=>
   intro k
   unfold fnd
   by_cases hv:p x=true
   ·exact .inl ⟨by simp [hv],k,by simp [hv]⟩
   ·have qa:p x=false:=by simpa using hv
    rcases ih (k+1) with ⟨h1,i,h2⟩ | ⟨h1,h2⟩
    ·exact .inl ⟨by simp [h1],i,by simp [qa,h2]⟩
    ·exact .inr ⟨by simp [h1,qa],by simp [qa,h2]⟩
 rcases key l 0 with ⟨h1,i,h2⟩ | ⟨h1,h2⟩
 ·rw[h2];exact⟨i,rfl,by simp [h1]⟩
 ·rw[h2];exact⟨-1,rfl,by simp [h1]⟩
theorem tC (l:List Int) (p:Int->Bool) (f:Int->Option Bool) (hf:∀ x,f x=some (p x)):qU l f=some (l.any p):=by
 obtain⟨i,h1,h2⟩:=xVh l p f hf
 unfold qU
 rw[h1,bnd_s,h2]
theorem yW {s:Int} (h:okS s=true) (ar:Int) (t:List Int):aL s t ar=some (xAb s t ar):=by
 unfold aL
 rw[tC t (λx=>!okV s x) _ (λx=>by unfold gZ;rw[xKg h];rfl)]
 unfold xAb
 by_cases hl:((t.length:Int)==ar)=true
 ·rw[hl]
  simp
  rw[Bool.eq_iff_iff]
  simp
 ·have:((t.length:Int)==ar)=false:=by simpa using hl
  rw[this]
  simp
def tX (a b:Int):Int:=if a<b then -1 else if b<a then 1 else 0
def dB:List Int->List Int->Int | [],[]=>0 | [],_::_=>-1 | _::_,[]=>1 | a::l,b::m=>if tX a b≠0 then tX a b else dB l m
theorem xUw (a b:Int):dM a b=some (tX a b):=by
 unfold dM jK tX
 by_cases h:a<b
 ·simp [h]
 ·by_cases h2:b<a<;>simp [h,h2]
theorem tO {a b:Int}:tX a b=0↔a=b:=by
 unfold tX
 split
 ·constructor<;>omega
 ·split<;>constructor<;>omega
theorem xLf (l m:List Int):zC l m=some (dB l m):=by
 unfold zC
 suffices H:∀ (l r:List Int) (k:Nat),m.drop k=r->k<=m.length->∀ (n:Int),n=k+l.length->
  oZ (oM (σ:=Unit) (ρ:=Int) (λk1 (x1:Int) s=>match s with | _=>if (decide ((m.length:Int)<=(k1:Int))) then some (.ret 1) else xG (ix m (k1:Int)) λz1=>xG (dM x1 z1) λz2=>if (z2 != 0) then some (.ret z2) else some (.go ())) l k ()) (λ_=>if (decide (n<(m.length:Int))) then some (-1) else some 0)=some (dB l r) from H l m 0 (by simp) (by omega) _ (by simp)
 intro l
 induction l with
 | nil=>
  intro r k hr hk n hn;have hl:=congrArg List.length hr;rw[Dk] at hl
  cases r with
  | nil=>
   have:¬ n<(m.length:Int):=by simp at hl hn;omega
   rw[forL_nil',thn_nx,if_neg (by simpa using this)]
   rfl
  | cons b r=>
   have:n<(m.length:Int):=by simp at hl hn;omega
   rw[forL_nil',thn_nx,if_pos (by simpa using this)]
   rfl
 | cons a l ih=>
  intro r k hr hk n hn;have hl:=congrArg List.length hr;rw[Dk] at hl
  cases r with
  | nil=>
   have:(m.length:Int)<=(k:Int):=by simp at hl;omega
   rw[fP (r:=1) (by simp [this])]
   rfl
  | cons b r=>
   have h1:¬ (m.length:Int)<=(k:Int):=by simp at hl;omega
   have h2:m[k]?=some b:=by rw[<- Ek,hr];rfl
   have h3:m.drop (k+1)=r:=by rw[<- Eg,hr];rfl
   unfold dB
   by_cases hc:tX a b=0
   ·rw[vQ (s':=()) (by simp [h1,vE h2,xUw,hc])]
    rw[show(if tX a b≠0 then tX a b else dB l r)=dB l r from if_neg (by simp [hc])];exact ih r (k+1) h3 (by simp at hl;omega) n (by rw[hn,Am];push_cast;omega)
   ·rw[fP (r:=tX a b) (by simp [h1,vE h2,xUw,hc])]
    rw[if_pos hc]
    rfl
theorem xVy (l m:List Int) (qa:l.length=m.length):gU l m=some (decide (dB l m<0)):=by
 unfold gU
 suffices H:∀ (l r:List Int) (k:Nat),m.drop k=r->l.length=r.length->
  oZ (oM (σ:=Unit) (ρ:=Bool) (λk32 (x1:Int) s=>match s with | _=>xG (ix m (k32:Int)) λz1=>if (x1 != z1) then some (.ret ((decide (x1<z1)))) else some (.go ())) l k ()) (λ_=>some false)=some (decide (dB l r<0)) from H l m 0 (by simp) qa
 intro l
 induction l with
 | nil=>
  intro r k hr hl
  cases r with
  | nil=>rfl
  | cons b r=>simp at hl
 | cons a l ih=>
  intro r k hr hl
  cases r with
  | nil=>simp at hl
  | cons b r=>
   have h2:m[k]?=some b:=by rw[<- Ek,hr];rfl
   have h3:m.drop (k+1)=r:=by rw[<- Eg,hr];rfl
   unfold dB
   by_cases hc:a=b
   ·have hj:=tO.2 hc
    rw[vQ (s':=()) (by simp [vE h2,hc])];rw[show(if tX a b≠0 then tX a b else dB l r)=dB l r from if_neg (by simp [hj])];exact ih r (k+1) h3 (by simpa using hl)
   ·have hj:tX a b≠0:=λh=>hc (tO.1 h)
    rw[fP (r:=decide (a<b)) (by simp [vE h2,hc])];rw[if_pos hj]
    unfold tX
    by_cases qc:a<b
    ·simp [qc]
    ·by_cases qd:b<a
     ·simp [qc,qd]
     ·omega
theorem xXx (s:Int) (x:Rel) (hN:x.tuples.length<=1048576):∃ b,nZ s x=some b/\eB s x=some b/\(b=true->okS s=true/\okS x.arity=true/\(∀ t∈x.tuples,xAb s t x.arity=true)/\∀ j t u,x.tuples[j]?=some t->x.tuples[j+1]?=some u->dB t u<0):=by
 unfold nZ eB
 simp only[xDs,xGo,xRz,xTd,bnd_s]
 by_cases hs:okS s=true
 ·by_cases ha:okS x.arity=true
  ·simp only[hs,ha,Bm,Af,if_false,thn_nx]
   obtain⟨q,h1,h2,h3,h4⟩:=xSb (ρ:=Bool) (l:=x.tuples) (k:=0) (λi=>(∀ j t,j<i->x.tuples[j]?=some t->xAb s t x.arity=true)/\∀ j t u,j+1<i->x.tuples[j]?=some t->x.tuples[j+1]?=some u->dB t u<0) (λr=>r=false)
    (f:=λ(k1:Nat) (x1:(List Int)) (s_1:Unit)=>oZ (σ:=Bool) (xG (lG s x.arity x1) λz1=>if (!z1) then   some (.nx true) else   if (decide (0<(k1:Int))) then   xG (ck ((k1:Int) - 1)) λz2=>xG (ix x.tuples z2) λz3=>xG (gU z3 x1) λz4=>some (.nx (!z4)) else   some (.nx false)) λs1=>if s1 then some (.ret false) else some (.go ()))
    (g:=λ(k2:Nat) (x2:(List Int)) (s_1:Unit)=>oZ (σ:=Bool) (xG (aL s x2 x.arity) λz5=>if (!z5) then   some (.nx true) else   if (decide (0<(k2:Int))) then   xG (ck ((k2:Int) - 1)) λz6=>xG (ix x.tuples z6) λz7=>xG (zC z7 x2) λz8=>some (.nx (decide (0<=z8))) else   some (.nx false)) λs2=>if s2 then some (.ret false) else some (.go ()))
    ⟨λj t hj=>by omega,λj t u hj=>by omega⟩
    (λj t hj qg=>by
     rw[Bj] at qg ⊢;obtain⟨hi,qi⟩:=qg;simp only[xQt hs,yW hs,bnd_s]
     by_cases hv:xAb s t x.arity=true
     ·simp only[hv,Bm,Af,if_false]
      have qh:∀ i u,i<j+1->x.tuples[i]?=some u->xAb s u x.arity=true:=λi u hlt hu=>by
       by_cases qa:i<j
       ·exact hi i u qa hu
       ·obtain rfl:i=j:=by omega
        rw[hj] at hu;rw[<- Option.some.inj hu];exact hv
      by_cases h0:0<j
      ·have hjl:j<x.tuples.length:=(Ac.1 hj).1
       have hp:x.tuples[j - 1]?=some (x.tuples[j - 1]'(by omega)):=Aa (by omega);have qc:=hi (j - 1) _ (by omega) hp;generalize x.tuples[j - 1]'(by omega)=p at hp qc
       have qd:p.length=t.length:=by
        unfold xAb at qc hv
        simp at qc hv
        omega
       have qj:ck ((j:Int) - 1)=some ((j:Int) - 1):=zJ (by omega) (by omega);have hx:ix x.tuples ((j:Int) - 1)=some p:=lK (by omega) (by rw[show((j:Int) - 1).toNat=j - 1 by omega];exact hp)
       have qe:(0:Int)<(j:Int):=by omega
       simp only[qe,decide_true,if_true,qj,hx,bnd_s,xVy p t qd,xLf,thn_nx]
       by_cases hc:dB p t<0
       ·have qf:¬ 0<=dB p t:=by omega
        simp only[hc,qf,decide_true,decide_false,Bm,Af,if_false];refine⟨none,rfl,rfl,λ_=>⟨qh,λi a b qk ha hb=>?_⟩,λ_ h=>nomatch h⟩
        by_cases qa:i+1<j
        ·exact qi i a b qa ha hb
        ·obtain rfl:j=i+1:=by omega
         rw[show i+1 - 1=i by omega] at hp;rw[hp] at ha;rw[hj] at hb;rw[<- Option.some.inj ha,<- Option.some.inj hb];exact hc
       ·have qf:0<=dB p t:=by omega
        simp only[hc,qf,decide_true,decide_false,Cl,if_true];exact⟨some false,rfl,rfl,(λh=>nomatch h),λr h=>(Option.some.inj h).symm⟩
      ·have qe:¬ (0:Int)<(j:Int):=by omega
       simp only[qe,decide_false,Af,if_false,thn_nx];exact⟨none,rfl,rfl,λ_=>⟨qh,λi a b qk=>by omega⟩,λ_ h=>nomatch h⟩
     ·have ql:xAb s t x.arity=false:=by simpa using hv
      simp only[ql,Cl,if_true,thn_nx]
      exact⟨some false,rfl,rfl,(λh=>nomatch h),λr h=>(Option.some.inj h).symm⟩)
   rw[h1,h2]
   cases q with
   | some r=>exact⟨r,rfl,rfl,λh=>by rw[h4 r rfl] at h;cases h⟩
   | none=>exact⟨true,rfl,rfl,λ_=>⟨trivial,trivial,(λt ht=>by
    obtain⟨i,hi,rfl⟩:=List.mem_iff_getElem.1 ht
    exact(h3 rfl).1 i _ (by omega) (Aa hi)),λj t u ht hu=>(h3 rfl).2 j t u (by have:=(Ac.1 hu).1;omega) ht hu⟩⟩
  ·have qm:okS x.arity=false:=by simpa using ha
   simp only[hs,qm,Bm,Cl,Af,if_false,if_true,thn_nx];exact⟨false,rfl,rfl,λh=>nomatch h⟩
 ·have qn:okS s=false:=by simpa using hs
  simp only[qn,Cl,if_true,thn_nx];exact⟨false,rfl,rfl,λh=>nomatch h⟩
theorem oJy (s:Int) (x:Rel) (hN:x.tuples.length<=1048576):∃ b,nZ s x=some b/\eB s x=some b/\(b=true->okS s=true/\okS x.arity=true/\∀ t∈x.tuples,xAb s t x.arity=true):=by
 obtain⟨b,h1,h2,h3⟩:=xXx s x hN;exact⟨b,h1,h2,λh=>⟨(h3 h).1,(h3 h).2.1,(h3 h).2.2.1⟩⟩
end
section
def tU (s:Int) (x:Rel):Bool:=(eB s x).getD false
theorem xUe (s:Int) (x:Rel) (hN:x.tuples.length<=1048576):nZ s x=some (tU s x)/\eB s x=some (tU s x)/\(tU s x=true->okS s=true/\okS x.arity=true/\∀ t∈x.tuples,xAb s t x.arity=true):=by
 obtain⟨b,h1,h2,h3⟩:=oJy s x hN
 have:tU s x=b:=by unfold tU;rw[h2];rfl
 rw[this];exact⟨h1,h2,h3⟩
theorem tF (l:List Rel) (p:Rel->Bool) (f:Rel->Option Bool) (hf:∀ x∈l,f x=some (p x)):qX l f=some (l.any p):=by
 obtain⟨i,h1,h2⟩:=uN l p f hf
 unfold qX
 rw[show kN l f=some i from h1,bnd_s,h2]
def nC (x:A6):Bool:=okS x.size && (decide ((x.rels.length:Int)<=6) && x.rels.all (tU x.size))
def nF (x:A6):Prop:=∀ r∈x.rels,r.tuples.length<=1048576
theorem uB (x:A6) (hx:nF x):aO x=some (nC x):=by
 unfold aO
 rw[dC (λ_ r=>if !tU x.size r then some false else none) (λj r hj=>by
  simp only[(xUe x.size r (hx r (Ae hj))).1,bnd_s]
  by_cases hv:tU x.size r=true
  ·simp [hv,xAn]
  ·simp [hv,xAn])]
 rw[tE]
 unfold nC
 by_cases ha:x.rels.all (tU x.size)=true
 ·have:x.rels.any (λr=>!tU x.size r)=false:=by simpa using ha
  rw[this,ha];simp only[xIf,Af,if_false,thn_nx,xDs,bnd_s]
  by_cases hs:okS x.size=true
  ·simp [hs]
  ·have qc:okS x.size=false:=by simpa using hs
   simp [qc]
 ·have qa:x.rels.all (tU x.size)=false:=by simpa using ha
  have:x.rels.any (λr=>!tU x.size r)=true:=by simpa using qa
  rw[this,qa]
  simp [xIf]
theorem mU (x:A6) (hx:nF x):zD x=some (nC x):=by
 unfold zD nC
 rw[xGo,tF x.rels (λr=>!tU x.size r) _ (λr hr=>by
  unfold gC
  rw[show Rel.mk r.arity r.tuples=r from rfl,show(A6.mk x.size x.rels).size=x.size from rfl,(xUe x.size r (hx r hr)).2.1]
  rfl)]
 simp only[bnd_s]
 by_cases hs:okS x.size=true
 ·by_cases hl:(x.rels.length:Int)<=6
  ·simp only[hs,hl,decide_true,if_true,thn_nx,Db]
   congr 1
   rw[Bool.eq_iff_iff]
   simp
  ·simp [hs,hl]
 ·have qa:okS x.size=false:=by simpa using hs
  simp [qa]
end
section
theorem xXi {a b:Int}:tX a b<0↔a<b:=by
 unfold tX
 split
 ·constructor<;>omega
 ·split<;>constructor<;>omega
theorem wQ {a b:Int} {l m:List Int}:dB (a::l) (b::m)<0↔a<b∨a=b/\dB l m<0:=by
 rw[show dB (a::l) (b::m)=if tX a b≠0 then tX a b else dB l m from rfl]
 by_cases h:tX a b=0
 ·rw[if_neg (by simp [h])]
  have:=tO.1 h;subst this
  constructor
  ·exact λh=>.inr ⟨rfl,h⟩
  ·rintro (h | ⟨_,h⟩)
   ·omega
   ·exact h
 ·rw[if_pos h,xXi]
  have:a≠b:=λe=>h (tO.2 e)
  constructor
  ·exact .inl
  ·rintro (h | ⟨h,_⟩)
   ·exact h
   ·exact absurd h this
theorem tJ:∀ {l m:List Int},dB l m=0↔l=m
 | [],[]=>by simp [dB]
 | [],_::_=>by simp [dB]
 | _::_,[]=>by simp [dB]
 | a::l,b::m=>by
  rw[show dB (a::l) (b::m)=if tX a b≠0 then tX a b else dB l m from rfl]
  by_cases h:tX a b=0
  ·rw[if_neg (by simp [h]),tJ]
   have:=tO.1 h
   simp [this]
  ·rw[if_pos h]
   have:a≠b:=λe=>h (tO.2 e)
   simp [this,h]
theorem uM:∀ {l m n:List Int},dB l m<0->dB m n<0->dB l n<0
 | [],[],_,h,_=>by simp [dB] at h
 | [],_::_,[],_,h=>by simp [dB] at h
 | [],_::_,_::_,_,_=>by simp [dB]
 | _::_,[],_,h,_=>by simp [dB] at h
 | _::_,_::_,[],_,h=>by simp [dB] at h
 | a::l,b::m,c::n,h1,h2=>by
  rw[wQ] at *
  rcases h1 with h1 | ⟨rfl,h1⟩
  ·rcases h2 with h2 | ⟨rfl,h2⟩
   ·exact .inl (by omega)
   ·exact .inl h1
  ·rcases h2 with h2 | ⟨rfl,h2⟩
   ·exact .inl h2
   ·exact .inr ⟨rfl,uM h1 h2⟩
def Asc (l:List (List Int)):Prop:=l.Pairwise λa b=>dB a b<0
theorem oBb:∀ {l:List (List Int)},(∀ j t u,l[j]?=some t->l[j+1]?=some u->dB t u<0)->Asc l
 | [],_=>List.Pairwise.nil
 | [_],_=>List.pairwise_singleton _ _
 | a::b::l,h=>by
  have ih:Asc (b::l):=oBb (λj t u ht hu=>h (j+1) t u (by simpa using ht) (by simpa using hu));have qa:dB a b<0:=h 0 a b rfl rfl;refine List.Pairwise.cons (λc hc=>?_) ih
  rcases Av.1 hc with rfl | hc
  ·exact qa
  ·exact uM qa (Ea ih hc)
theorem Asc.lt {l:List (List Int)} (h:Asc l) {i j:Nat} {t u:List Int} (qa:i<j) (ht:l[i]?=some t) (hu:l[j]?=some u):dB t u<0:=by
 obtain⟨hi,rfl⟩:=Ac.1 ht;obtain⟨hj,rfl⟩:=Ac.1 hu;exact List.pairwise_iff_getElem.1 h i j hi hj qa
theorem Asc.ext:∀ {l m:List (List Int)},Asc l->Asc m->(∀ x,x∈l↔x∈m)->l=m
 | [],[],_,_,_=>rfl
 | [],b::m,_,_,h=>absurd ((h b).2 (by simp)) (by simp)
 | a::l,[],_,_,h=>absurd ((h a).1 (by simp)) (by simp)
 | a::l,b::m,hl,hm,h=>by
  have irr:∀ x:List Int,¬ dB x x<0:=λx=>by rw[tJ.2 rfl];omega
  have qa:a=b:=by
   rcases Av.1 ((h a).1 (by simp)) with e | h1
   ·exact e
   ·rcases Av.1 ((h b).2 (by simp)) with e | h2
    ·exact e.symm
    ·exact absurd (uM (Ea hm h1) (Ea hl h2)) (irr _)
  subst qa
  congr 1
  refine Asc.ext (List.Pairwise.of_cons hl) (List.Pairwise.of_cons hm) (λx=>⟨λhx=>?_,λhx=>?_⟩)
  ·rcases Av.1 ((h x).1 (by simp [hx])) with rfl | h1
   ·exact absurd (Ea hl hx) (irr _)
   ·exact h1
  ·rcases Av.1 ((h x).2 (by simp [hx])) with rfl | h1
   ·exact absurd (Ea hm hx) (irr _)
   ·exact h1
theorem xSt (d v:List Int):mV d v=some (decide (d=v)):=by
 unfold mV
 by_cases hl:d.length=v.length
 ·rw[if_neg (by simp [hl])]
  rw[dC (ρ:=Bool) (λk x=>if (v[k]? != some x)=true then some false else none) (λj x hj=>by
   have hjl:=(Ac.1 hj).1
   have hv:v[0+j]?=some (v[j]'(by omega)):=by rw[Bj];exact Aa _
   simp only[vE hv,bnd_s,hv]
   by_cases hx:x=v[j]'(by omega)
   ·subst hx;simp [xAn]
   ·have:(x != v[j]'(by omega))=true:=by simpa using hx
    have h2:(some (v[j]'(by omega)) != some x)=true:=by simpa using λe=>hx e.symm
    rw[this,h2]
    rfl)]
  have key:∀ (d:List Int) (k:Nat),k+d.length=v.length->fnd (λk x=>if (v[k]? != some x)=true then some false else none) d k=if d=v.drop k then none else some false:=by
   intro d
   induction d with
   | nil=>
    intro k hk;have:v.drop k=[]:=Cp (by simp at hk;omega);rw[this]
    rfl
   | cons x d ih=>
    intro k hk
    have qa:k<v.length:=by simp at hk;omega
    have hd:v.drop k=v[k]::v.drop (k+1):=Br qa
    unfold fnd
    rw[hd,Aa qa]
    by_cases hx:x=v[k]
    ·have e1:(some v[k] != some x)=false:=by rw[hx];simp
     rw[e1,if_neg (by simp),ih (k+1) (by simp at hk;omega),hx];simp only[List.cons.injEq,true_and]
    ·have h2:(some v[k] != some x)=true:=by simpa using λe=>hx e.symm
     rw[h2,if_pos rfl,if_neg (λe=>hx (List.cons.inj e).1)]
  rw[key d 0 (by omega),Er]
  by_cases hd:d=v
  ·rw[if_pos hd];simp [xIf,hd]
  ·rw[if_neg hd];simp [xIf,hd]
 ·rw[if_pos (by simpa using λe=>hl (by omega))]
  have:d≠v:=λe=>hl (by rw[e])
  simp [this]
theorem xHg (r:Rel) (t:List Int):mI r t=some (decide (t∈r.tuples)):=by
 unfold mI
 rw[dC (ρ:=Bool) (λ_ x=>if (λy=>decide (y=t)) x then some true else none) (λj x hj=>by
  simp only[xSt,bnd_s]
  by_cases hx:x=t<;>simp [hx,xAn])]
 rw[tE]
 by_cases h:t∈r.tuples
 ·rw[if_pos (by simpa using h)];simp [xIf,h]
 ·rw[if_neg (by simpa using h)];simp [xIf,h]
theorem xGu {L:List (List Int)} {t:List Int} (hL:Asc L) (qc:L.length<=1000000) {f:List Int->List Int->Option Int} (hf:∀ a b,f a b=some (dB a b)):∀ (g lo hi N:Nat),hi - lo<=g->g+1<=N->lo<=hi->hi<=L.length->(∀ i x,i<lo->L[i]?=some x->dB x t<0)->(∀ i x,hi<=i->L[i]?=some x->¬ dB x t<0)->
 ∃ k:Nat,k<=L.length/\(∀ i x,i<k->L[i]?=some x->dB x t<0)/\(∀ i x,k<=i->L[i]?=some x->¬ dB x t<0) ∧
 mL (σ:=Int×Int) (ρ:=Int×Bool) (λs=>match s with | (s1,s2)=>if (decide (s1<s2)) then xG (ck (s1+s2)) λz1=>xG (nn z1) λz2=>xG (ix L (z2 / 2)) λz3=>xG (f z3 t) λz4=>if (decide (z4<0)) then xG (ck ((z2 / 2)+1)) λz5=>some (.go (z5,s2)) else some (.go (s1,(z2 / 2))) else some (.brk (s1,s2))) N ((lo:Int),(hi:Int))=some (.nx ((k:Int),(k:Int)))
 | g,lo,hi,N,hg,hN,hlh,hh,h1,h2=>by
  obtain⟨M,rfl⟩:∃ M,N=M+1:=⟨N - 1,by omega⟩
  by_cases hlt:lo<hi
  ·cases g with
   | zero=>omega
   | succ g=>
   have hm:(lo+hi) / 2<L.length:=by omega
   have e2:((lo:Int)+(hi:Int)) / 2=(((lo+hi) / 2:Nat):Int):=by omega
   have hx:L[(lo+hi) / 2]?=some L[(lo+hi) / 2]:=Aa hm
   by_cases hc:dB L[(lo+hi) / 2] t<0
   ·obtain⟨k,k1,k2,k3,k4⟩:=xGu hL qc hf g ((lo+hi) / 2+1) hi M (by omega) (by omega) (by omega) hh (λi x qd qa=>by
     rcases Dy i ((lo+hi) / 2) with h | h
     ·exact uM (hL.lt h qa hx) hc
     ·obtain rfl:i=(lo+hi) / 2:=by omega
      rw[hx] at qa;rw[<- Option.some.inj qa]
      exact hc) h2
    refine⟨k,k1,k2,k3,?_⟩
    rw[eT (s':=((((lo+hi) / 2+1:Nat):Int),(hi:Int))) (by
     have h3:(lo:Int)<(hi:Int):=by omega
     simp only[h3,decide_true,if_true,zJ (x:=(lo:Int)+(hi:Int)) (by omega) (by omega),bnd_s,oFf (x:=(lo:Int)+(hi:Int)) (by omega),e2,vE hx,hf,hc,zJ (x:=(((lo+hi) / 2:Nat):Int)+1) (by omega) (by omega)]
     rfl)]
    exact k4
   ·obtain⟨k,k1,k2,k3,k4⟩:=xGu hL qc hf g lo ((lo+hi) / 2) M (by omega) (by omega) (by omega) (by omega) h1 (λi x qd qa=>by
     rcases Dy ((lo+hi) / 2) i with h | h
     ·exact λh4=>hc (uM (hL.lt h hx qa) h4)
     ·obtain rfl:i=(lo+hi) / 2:=by omega
      rw[hx] at qa;rw[<- Option.some.inj qa]
      exact hc)
    refine⟨k,k1,k2,k3,?_⟩
    rw[eT (s':=((lo:Int),(((lo+hi) / 2:Nat):Int))) (by
     have h3:(lo:Int)<(hi:Int):=by omega
     simp only[h3,decide_true,if_true,zJ (x:=(lo:Int)+(hi:Int)) (by omega) (by omega),bnd_s,oFf (x:=(lo:Int)+(hi:Int)) (by omega),e2,vE hx,hf,hc,decide_false,Af,if_false])]
    exact k4
  ·obtain rfl:lo=hi:=by omega
   refine⟨lo,hh,h1,h2,?_⟩;rw[bY]
   simp
theorem xPh {N:Nat} {r:Rel} {t:List Int} (hr:Asc r.tuples) (hlen:r.tuples.length<=1000) (hN:1002<=N):iM N r t=some (decide (t∈r.tuples)):=by
 unfold iM vR
 have hf:∀ a b,lW a b=some (dB a b):=λa b=>by unfold lW;rw[xLf];rfl
 obtain⟨k,k1,k2,k3,k4⟩:=xGu (t:=t) hr (by omega) hf r.tuples.length 0 r.tuples.length N (by omega) (by omega) (by omega) (by omega) (λi x hi=>absurd hi (by omega)) (λi x hi hx=>absurd (Ac.1 hx).1 (by omega));rw[show((0:Nat):Int)=0 from rfl] at k4;rw[k4,thn_nx]
 by_cases hk:k<r.tuples.length
 ·have hx:r.tuples[k]?=some r.tuples[k]:=Aa hk
  have h1:(k:Int)<(r.tuples.length:Int):=by omega
  simp only[h1,decide_true,if_true,vE hx,bnd_s,hf,thn_nx]
  congr 1
  rw[show(dB r.tuples[k] t==0)=decide (dB r.tuples[k] t=0) from rfl];refine decide_eq_decide.2 ⟨λh=>?_,λh=>?_⟩
  ·rw[<- tJ.1 h];exact Bn hk
  ·obtain⟨j,hj,e⟩:=Bx h
   have qa:r.tuples[j]?=some t:=by rw[Aa hj,e]
   rcases Nat.lt_trichotomy j k with h5 | h5 | h5
   ·have:=k2 j t h5 qa
    rw[tJ.2 rfl] at this
    omega
   ·subst h5
    rw[e];exact tJ.2 rfl
   ·exact absurd (hr.lt h5 hx qa) (k3 k _ (Az _) hx)
 ·have h1:¬ (k:Int)<(r.tuples.length:Int):=by omega
  simp only[h1,decide_false,Af,if_false,thn_nx,bnd_s]
  have:t ∉ r.tuples:=λh=>by
   obtain⟨j,hj,e⟩:=Bx h;have:=k2 j t (by omega) (by rw[Aa hj,e]);rw[tJ.2 rfl] at this
   omega
  simp [this]
def vH (T:Nat):Nat->List (List Int) | 0=>[[]] | n+1=>(List.range T).flatMap λ(a:Nat)=>(vH T n).map (λl=>(a:Int)::l)
theorem xKd:∀ T∈[1,2,3,4],∀ n∈[1,2,3,4],vA (T:Nat) (n:Nat)=some ((vH T n).length:Int)/\qD 10 (T:Nat) (n:Nat)=some ((vH T n).length:Int)/\(vH T n).length<=256/\(List.range (vH T n).length).map (λ(k:Nat)=>qQ 10 (T:Nat) (n:Nat) (k:Int))=(vH T n).map some:=by decide +kernel
theorem cK {T:Nat}:∀ {n:Nat} {l:List Int},l∈vH T n↔l.length=n/\∀ a∈l,0<=a/\a<T
 | 0,l=>by
  unfold vH
  constructor
  ·intro h;simp at h;subst h;simp
  ·intro h
   have:=Bw.1 h.1
   simp [this]
 | n+1,l=>by
  unfold vH
  rw[List.mem_flatMap]
  constructor
  ·rintro ⟨a,ha,h⟩
   obtain⟨m,hm,rfl⟩:=Cv.1 h;obtain⟨h1,h2⟩:=cK.1 hm;rw[List.mem_range] at ha;refine⟨by simp [h1],λb hb=>?_⟩
   rcases Av.1 hb with rfl | hb
   ·exact⟨by omega,by omega⟩
   ·exact h2 b hb
  ·rintro ⟨h1,h2⟩
   cases l with
   | nil=>simp at h1
   | cons a l=>
    obtain⟨h3,h4⟩:=h2 a (by simp);refine⟨a.toNat,List.mem_range.2 (by omega),Cv.2 ⟨l,cK.2 ⟨by simpa using h1,λb hb=>h2 b (by simp [hb])⟩,?_⟩⟩;rw[Int.toNat_of_nonneg h3]
theorem xKk (T:Nat):∀ n,Asc (vH T n)
 | 0=>List.pairwise_singleton _ _
 | n+1=>by
  unfold vH Asc
  rw[List.pairwise_flatMap];refine⟨λa _=>?_,?_⟩
  ·rw[List.pairwise_map]
   exact(xKk T n).imp (λh=>wQ.2 (.inr ⟨rfl,h⟩))
  ·refine(List.pairwise_lt_range (n:=T)).imp (λ{a b} hab x hx y hy=>?_)
   obtain⟨m,_,rfl⟩:=Cv.1 hx;obtain⟨m',_,rfl⟩:=Cv.1 hy;exact wQ.2 (.inl (by omega))
end
section
theorem xFp {α:Type} {b:Nat->α->Unit->Option (Ctl Unit Bool)} (p:α->Bool) {l:List α} (h:∀ j x,l[j]?=some x->b j x ()=some (if p x then .go () else .ret false)) :
 oZ (oM b l 0 ()) (λ_=>some true)=some (l.all p):=by
 rw[dC (ρ:=Bool) (λ_ x=>if (λy=>!p y) x then some false else none) (λj x hj=>by
  rw[Bj,h j x hj]
  cases hp:p x<;>simp [hp,xAn]),tE]
 by_cases hp:l.all p=true
 ·have:l.any (λy=>!p y)=false:=by
   rw[List.any_eq_false];intro x hx
   simp [Ci.1 hp x hx]
  rw[this,hp]
  rfl
 ·have h2:l.all p=false:=by simpa using hp
  have:l.any (λy=>!p y)=true:=by
   rw[<- Ej,h2]
   rfl
  rw[this,h2]
  rfl
def atV (vs args:List Int):List Int:=args.map λi=>vs.getD i.toNat 0
theorem xUi {ρ:Type} (vs:List Int):∀ (args:List Int) (k:Nat) (s:List Int),(∀ i∈args,0<=i/\i<vs.length)->s.length+args.length<=1000000->
 oM (σ:=List Int) (ρ:=ρ) (λk1 (x1:Int) s1=>xG (ix vs x1) λz1=>xG (ap s1 ([z1])) λz2=>some (.go z2)) args k s=some (.nx (s++atV vs args))
 | [],_,s,_,_=>by simp [atV,oM]
 | i::args,k,s,h,hs=>by
  obtain⟨h0,h1⟩:=h i (by simp)
  have hx:vs[i.toNat]?=some (vs.getD i.toNat 0):=by
   rw[Ao,Aa (by omega)]
   rfl
  rw[Am] at hs
  rw[vQ (s':=s++[vs.getD i.toNat 0]) (by
   simp only[lK h0 hx,bnd_s,kX (l:=s) (m:=[vs.getD i.toNat 0]) (by simp only[Am,Bi];omega)])]
  rw[xUi vs args (k+1) _ (λj hj=>h j (by simp [hj])) (by rw[Aq,Ak];omega)]
  simp [atV]
theorem xJl {vs args:List Int} (h:∀ i∈args,0<=i/\i<vs.length) (hl:args.length<=1000):rI vs args=some (atV vs args):=by
 unfold rI
 rw[xUi vs args 0 [] h (by simp only[Bi];omega),thn_nx,Bp]
theorem xVj {vs args:List Int} (h:∀ i∈args,0<=i/\i<vs.length) (hl:args.length<=1000):wE vs args=some (atV vs args):=xJl h hl
def xRu (T:Nat) (r:Rel):Prop:=∃ n:Nat,r.arity=n/\1<=n/\n<=4/\Asc r.tuples/\∀ t∈r.tuples,t∈vH T n
theorem xLq {T:Nat} {r:Rel} {n:Nat} (h:Asc r.tuples) (hm:∀ t∈r.tuples,t∈vH T n):r.tuples=(vH T n).filter λt=>decide (t∈r.tuples):= Asc.ext h ((xKk T n).filter _) (λx=>⟨λhx=>Cz.2 ⟨hm x hx,by simpa using hx⟩,λhx=>by simpa using (Cz.1 hx).2⟩)
theorem xRr {T n:Nat} (hT:1<=T/\T<=4) (hn:1<=n/\n<=4):(vH T n).length<=256:=(xKd T (by simp;omega) n (by simp;omega)).2.2.1
theorem xRu.len {T:Nat} {r:Rel} (hT:1<=T/\T<=4) (h:xRu T r):r.tuples.length<=256:=by
 obtain⟨n,_,h1,h2,h3,h4⟩:=h;rw[xLq h3 h4];exact Cj (Et _ _) (xRr hT ⟨h1,h2⟩)
structure TV (T:Nat) (u:A6):Prop where
  s:u.size=T
  t:1<=T/\T<=4
  r:∀ r∈u.rels,xRu T r
  n:u.rels.length<=6
def mx (l:List Int):Int:=l.foldl (λs x=>if x<s then s else x) 0
theorem oFi {l:List Int}:∀ {s:Int},(s<=l.foldl (λs x=>if x<s then s else x) s)/\∀ x∈l,x<=l.foldl (λs x=>if x<s then s else x) s:=by
 induction l with
 | nil=>intro s;exact⟨Int.le_refl _,by simp⟩
 | cons y l ih=>
  intro s;rw[List.foldl_cons];obtain⟨h1,h2⟩:=ih (s:=if y<s then s else y)
  have hs:s<=(if y<s then s else y)/\y<=(if y<s then s else y):=by split<;>omega
  refine⟨Int.le_trans hs.1 h1,λx hx=>?_⟩
  rcases Av.1 hx with rfl | hx
  ·exact Int.le_trans hs.2 h1
  ·exact h2 x hx
theorem oIf {l:List Int}:∀ {s:Int},l.foldl (λs x=>if x<s then s else x) s=s∨l.foldl (λs x=>if x<s then s else x) s∈l:=by
 induction l with
 | nil=>intro s;exact .inl rfl
 | cons y l ih=>
  intro s;rw[List.foldl_cons]
  rcases ih (s:=if y<s then s else y) with h | h
  ·rw[h]
   split
   ·exact .inl rfl
   ·exact .inr (by simp)
  ·exact .inr (by simp [h])
theorem oJh {l:List Int} {n:Int} (h:∀ i∈l,0<=i/\i<n) (hn:0<n):0<=mx l/\mx l<n:=by
 refine⟨oFi.1,?_⟩
 rcases oIf (l:=l) (s:=0) with e | e
 ·unfold mx;rw[e];exact hn
 ·exact(h _ e).2
theorem xRw {ρ:Type} (x0:Int) (L:List Int):∀ (l:List Int) (k:Nat) (s:Int),L.drop k=l->qM (σ:=Int) (ρ:=ρ) (λk1 s1=>xG (ix (x0::L) (1+(k1:Int))) λz1=>some (.go (if s1<z1 then z1 else s1))) l.length k s=some (.nx (l.foldl (λs x=>if x<s then s else x) s))
 | [],_,_,_=>rfl
 | x::l,k,s,h=>by
  have hx:(x0::L)[1+k]?=some x:=by
   rw[Ef,List.getElem?_cons_succ,<- Ek,h]
   rfl
  have e:(1:Int)+(k:Int)=((1+k:Nat):Int):=by omega
  rw[Am,zM (s':=if x<s then s else x) (by
   rw[e,vE hx,bnd_s]
   by_cases h1:x<s
   ·rw[if_neg (by omega),if_pos h1]
   ·rw[if_neg h1]
    by_cases h2:s<x
    ·rw[if_pos h2]
    ·rw[if_neg h2,show s=x by omega]),xRw x0 L l (k+1) _ (by rw[<- Eg,h];rfl)]
  rfl
theorem oIb {l:List Int} (h:∀ i∈l,0<=i) (hl:1<=l.length):zG l=some (mx l):=by
 cases l with
 | nil=>simp at hl
 | cons x l=>
  unfold zG
  have h1:¬ (((x::l).length:Nat):Int)<1:=by simp;omega
  have h2:((((x::l).length:Nat):Int) - 1).toNat=l.length:=by simp
  rw[if_neg (by simpa using h1),thn_nx,show ix (x::l) 0=some x from rfl,bnd_s,h2,xRw x l l 0 x rfl,thn_nx]
  unfold mx
  rw[List.foldl_cons];have:=h x (by simp)
  by_cases h3:x<0
  ·omega
  ·rw[if_neg h3]
end
section

end
section
theorem xFt {σ ρ:Type} {b:σ->Option (Ctl σ ρ)} {r:Out σ ρ}:∀ {m M:Nat} {s:σ},mL b m s=some r->m<=M->mL b M s=some r
 | 0,_,_,h,_=>by cases h
 | m+1,M,s,h,hM=>by
  obtain⟨K,rfl⟩:∃ K,M=K+1:=⟨M - 1,by omega⟩
  unfold mL at h ⊢
  cases hb:b s with
  | none=>rw[hb] at h;cases h
  | some c=>
   rw[hb] at h
   cases c with
   | go s'=>exact xFt h (by omega)
   | brk s'=>exact h
   | ret v=>exact h
theorem oBa {σ ρ:Type} {o:Out σ ρ} {k:σ->Option ρ} {r:ρ} (h:oGs k r o):oZ (some o) k=some r:=by
 cases o with
 | nx s=>exact h
 | ret v=>exact congrArg some h
theorem xAx {m M:Nat} {a b c:Int} {d:List Int} (h:qQ m a b c=some d) (hM:m<=M):qQ M a b c=some d:=by
 unfold qQ at h ⊢
 obtain⟨z,h1,h⟩:=bU h;obtain⟨y,h2,h⟩:=bU h;obtain⟨o,ho,hk⟩:=xKz h;rw[h1,bnd_s,h2,bnd_s,xFt ho hM];exact oBa hk
theorem xDi {m M:Nat} {a b c:Int} (h:qD m a b=some c) (hM:m<=M):qD M a b=some c:=by
 unfold qD at h ⊢
 obtain⟨o,ho,hk⟩:=xKz h;rw[xFt ho hM];exact oBa hk
theorem xNh:vZ=qQ:=rfl
theorem oGy {T n k N:Nat} (hT:1<=T/\T<=4) (hn:1<=n/\n<=4) (hN:10<=N) (hk:k<(vH T n).length):qQ N (T:Int) (n:Int) (k:Int)=some (vH T n)[k]:=by
 have h:=(xKd T (by simp;omega) n (by simp;omega)).2.2.2
 have h1:((List.range (vH T n).length).map (λ(k:Nat)=>qQ 10 (T:Nat) (n:Nat) (k:Int)))[k]?=some (some (vH T n)[k]):=by
  rw[h,Ay,Aa hk]
  rfl
 rw[Ay,Dz hk] at h1;exact xAx (Option.some.inj h1) hN
theorem oGh {T n N:Nat} (hT:1<=T/\T<=4) (hn:1<=n/\n<=4) (hN:10<=N):vA (T:Int) (n:Int)=some ((vH T n).length:Int)/\qD N (T:Int) (n:Int)=some ((vH T n).length:Int):=by
 have h:=xKd T (by simp;omega) n (by simp;omega);exact⟨h.1,xDi h.2.1 hN⟩
theorem xGa {ρ:Type} {N:Nat} {T n:Int} {E:List (List Int)} {is:List Int->Option Bool} (W:List Int->Bool) (hd:∀ (k:Nat) (h:k<E.length),qQ N T n (k:Int)=some E[k]) (hi:∀ d∈E,is d=some (W d)):∀ (m k:Nat) (s:List (List Int)),k+m=E.length->s.length+m<=1000->
 qM (σ:=List (List Int)) (ρ:=ρ) (λk1 s1=>xG (qQ N T n (k1:Int)) λz1=>xG (is z1) λz2=>if z2 then xG (ap s1 ([z1])) λz3=>some (.go z3) else some (.go s1)) m k s=some (.nx (s++(E.drop k).filter W))
 | 0,k,s,hk,_=>by
  rw[Cp (by omega)]
  simp [qM]
 | m+1,k,s,hk,hs=>by
  have qa:k<E.length:=by omega
  have hw:=hi _ (Bn qa);rw[Br qa,Dv]
  by_cases h:W E[k]=true
  ·rw[zM (s':=s++[E[k]]) (by
    rw[hd k qa,bnd_s,hw,bnd_s,h,if_pos rfl,kX (by simp only[Am,Bi];omega),bnd_s]),xGa W hd hi m (k+1) _ (by omega) (by rw[Aq,Ak];omega),if_pos h]
   simp
  ·rw[zM (s':=s) (by
    rw[hd k qa,bnd_s,hw,bnd_s,if_neg h]),xGa W hd hi m (k+1) _ (by omega) (by omega),if_neg h]
theorem xRm {N T n:Nat} (hT:1<=T/\T<=4) (hn:1<=n/\n<=4) (hN:10<=N) {is:List Int->Option Bool} (W:List Int->Bool) (hi:∀ d∈vH T n,is d=some (W d)):iQ N (T:Int) (n:Int) is=some ⟨n,(vH T n).filter W⟩:=by
 unfold iQ
 have hl:=xRr hT hn;rw[(oGh hT hn hN).1,bnd_s,Ad,xGa W (λk h=>oGy hT hn hN h) hi _ 0 [] (by omega) (by simp only[Bi];omega),thn_nx,Bp,Er]
end
section
variable {t:A6}
theorem oIi {s:Int} {x:Rel} (hN:x.tuples.length<=1048576) (h:tU s x=true):okS s=true/\xRu s.toNat x:=by
  obtain⟨b,_,h2,h3⟩:=xXx s x hN
  have hb:b=true:=by unfold tU at h;rw[h2] at h;exact h
  obtain⟨h4,h5,h6,h7⟩:=h3 hb;have hs:=xQb h4;have ha:=xQb h5;refine⟨h4,x.arity.toNat,by omega,by omega,by omega,oBb h7,λt ht=>cK.2 ?_⟩;have h8:=h6 t ht
  unfold xAb at h8
  rw[Ba] at h8
  refine ⟨by have : (t.length : Int) = x.arity := by simpa using h8.1
             omega,λa ha=>?_⟩
  have h9:=Ci.1 h8.2 a ha
  unfold okV at h9
  simp at h9
  omega
theorem xLu {u:A6} (hu:nF u) (h:nC u=true):TV u.size.toNat u:=by
 unfold nC at h
 rw[Ba,Ba] at h;obtain⟨h1,h2,h3⟩:=h;have hs:=xQb h1;exact⟨by omega,by omega,λr hr=>(oIi (hu r hr) (Ci.1 h3 r hr)).2,by have:=of_decide_eq_true h2;omega⟩
theorem xNr {s:Int} (h:1<=s/\s<=1000) (a:Int):dX s a=some (okV s a):=by
 unfold dX
 rw[zJ (by omega) (by omega),bnd_s,fG]
 rfl
theorem xRb {s:Int} (h:1<=s/\s<=1000) (ar:Int) (t:List Int):aL s t ar=some (xAb s t ar):=by
 unfold aL xAb
 by_cases hl:((t.length:Int)==ar)=true
 ·rw[hl,if_pos rfl,tC t (λx=>!okV s x) _ (λx=>by unfold gZ;rw[xNr h,bnd_s])]
  rw[bnd_s,thn_nx,Db,<- Ej,Bool.not_not]
 ·have qa:((t.length:Int)==ar)=false:=by simpa using hl
  rw[qa,if_neg (by simp),thn_nx,Bool.false_and]
theorem oAu {s:Int} (h:1<=s/\s<=1000) (t:List Int):lS t s=some (t.all (okV s)):=by
 unfold lS
 exact xFp (okV s) (λj x hx=>by
  simp only[zJ (x:=s - 1) (by omega) (by omega),bnd_s,dV]
  unfold okV
  cases (decide (0<=x) && decide (x<=s - 1))<;>rfl)
def rJ (V:Int) (m:Nat):List Int:=(List.range m).map λ(i:Nat)=>V+i
theorem xZt (V:Int) (m:Nat):(rJ V m).length=m:=by simp [rJ]
theorem xGg (V:Int) (m:Nat):rJ V (m+1)=V::rJ (V+1) m:=by
 unfold rJ
 rw[List.range_succ_eq_map,Da,List.map_map];simp only[Int.natCast_zero,Int.add_zero,List.cons.injEq,true_and]
 apply List.map_congr_left
 intro i _;simp only[Function.comp]
 push_cast
 omega
theorem xNl {ρ:Type} (V:Int) (h0:0<=V):∀ (m k:Nat) (s:List Int),V+k+m<=1000000->s.length+m<=1000000->
 qM (σ:=List Int) (ρ:=ρ) (λk1 s1=>xG (ck (V+(k1:Int))) λz1=>xG (ap s1 ([z1])) λz2=>some (.go z2)) m k s=some (.nx (s++rJ (V+k) m))
 | 0,k,s,_,_=>by simp [qM,rJ]
 | m+1,k,s,h1,h2=>by
  have e:V+((k+1:Nat):Int)=V+k+1:=by omega
  rw[zM (s':=s++[V+k]) (by rw[zJ (by omega) (by omega),bnd_s,kX (by simp only[Am,Bi];omega),bnd_s]),xNl V h0 m (k+1) _ (by omega) (by rw[Aq,Ak];omega),xGg,e]
  simp
theorem xJb {V:Int} {m:Nat} (h0:0<=V) (h1:V+m<=1000000):pL V (m:Int)=some (rJ V m):=by
 unfold pL
 have:=xNl (ρ:=List Int) V h0 m 0 [] (by omega) (by simp only[Bi];omega);rw[Ad,this,thn_nx,Bp]
 simp
theorem oAm {m:Nat} (h1:m<=1000000):nL (m:Int)=some (rJ 0 m):=by
 unfold nL
 have key:∀ (m k:Nat) (s:List Int),k+m<=1000000->s.length+m<=1000000->qM (σ:=List Int) (ρ:=List Int) (λk1 s1=>xG (ap s1 ([(k1:Int)])) λz1=>some (.go z1)) m k s=some (.nx (s++rJ (k:Int) m)):=by
  intro m
  induction m with
  | zero=>intro k s _ _;simp [qM,rJ]
  | succ m ih=>
   intro k s h2 h3
   have e:((k+1:Nat):Int)=(k:Int)+1:=by omega
   rw[zM (s':=s++[(k:Int)]) (by rw[kX (by simp only[Am,Bi];omega),bnd_s]),ih (k+1) _ (by omega) (by rw[Aq,Ak];omega),xGg,e]
   simp
 rw[Ad,key m 0 [] (by omega) (by simp only[Bi];omega),thn_nx,Bp]
 rfl
def CV (t:A6) (n:Int) (c:Con):Prop:=(∀ i∈c.scope,0<=i/\i<n)/\∃ r:Rel,0<=c.rel/\t.rels[c.rel.toNat]?=some r/\r∈t.rels/\(c.scope.length:Int)=r.arity
def xVm (t:A6) (vars:Int) (c:Con):Bool:=(decide (0<=c.rel) && decide (c.rel<=(t.rels.length:Int) - 1)) && (((c.scope.length:Int)==(t.rels.getD c.rel.toNat default).arity) && c.scope.all (okV vars))
def sU (t:A6) (x:A7):Bool:=nC t && ((decide (1<=x.vars) && decide (x.vars<=10)) && (decide ((x.cons.length:Int)<=24) && x.cons.all (xVm t x.vars)))
theorem xYs {c:Con} (h:(decide (0<=c.rel) && decide (c.rel<=(t.rels.length:Int) - 1))=true):ix t.rels c.rel=some (t.rels.getD c.rel.toNat default):=by
 simp at h
 exact lK h.1 (by rw[Ao,Aa (by omega)];rfl)
theorem yL (l:List Con) (p:Con->Bool) (f:Con->Option Bool) (hf:∀ x∈l,f x=some (p x)):vK l f=some (l.any p):=by
 obtain⟨i,h1,h2⟩:=uN l p f hf
 unfold vK kL
 rw[h1,bnd_s,h2]
theorem xFn {x:A7} (ht:nF t):iS t x=some (sU t x)/\kS t x=some (sU t x):=by
 have e0:zD (A6.mk t.size t.rels)=some (nC t):=mU t ht
 unfold iS kS sU
 rw[uB t ht,e0,bnd_s,bnd_s]
 by_cases h1:nC t=true
 ·have hn:=(xLu ht h1).n
  simp only[h1,Bm,Af,if_false,if_true,Db,dV,bnd_s]
  unfold uX
  simp only[fG,bnd_s]
  by_cases h2:(decide (1<=x.vars) && decide (x.vars<=10))=true
  ·have hv:1<=x.vars/\x.vars<=10:=by simpa using h2
   simp only[h2,Bm,Af,if_false,if_true,Db,thn_nx]
   by_cases h3:(x.cons.length:Int)<=24
   ·have qa:¬ (24:Int)<(x.cons.length:Int):=by omega
    simp only[h3,qa,decide_true,decide_false,Af,if_false,if_true,Db]
    constructor
    ·exact xFp (xVm t x.vars) (λj c _=>by
      simp only[zJ (x:=(t.rels.length:Int) - 1) (by omega) (by omega),bnd_s]
      unfold xVm
      by_cases h4:(decide (0<=c.rel) && decide (c.rel<=(t.rels.length:Int) - 1))=true
      ·rw[h4]
       simp only[Bm,Af,if_false,Db,xYs h4,bnd_s]
       by_cases h5:((c.scope.length:Int)==(t.rels.getD c.rel.toNat default).arity)=true
       ·have h6:((c.scope.length:Int) != (t.rels.getD c.rel.toNat default).arity)=false:=by simpa using h5
        rw[h6,h5,if_neg (by simp),oAu (by omega),bnd_s,thn_nx]
        cases c.scope.all (okV x.vars)<;>rfl
       ·have qd:((c.scope.length:Int)==(t.rels.getD c.rel.toNat default).arity)=false:=by simpa using h5
        have h6:((c.scope.length:Int) != (t.rels.getD c.rel.toNat default).arity)=true:=by simpa using h5
        rw[h6,qd,if_pos rfl,thn_nx]
        rfl
      ·have qc:(decide (0<=c.rel) && decide (c.rel<=(t.rels.length:Int) - 1))=false:=by simpa using h4
       rw[qc]
       rfl)
    ·rw[yL x.cons (λc=>!xVm t x.vars c) _ (λc _=>by
      unfold fW
      simp only[zJ (x:=(t.rels.length:Int) - 1) (by omega) (by omega),bnd_s,fG]
      unfold xVm
      by_cases h4:(decide (0<=c.rel) && decide (c.rel<=(t.rels.length:Int) - 1))=true
      ·rw[h4]
       simp only[Bm,Af,if_false,Db,xYs h4,bnd_s,xRb (s:=x.vars) (by omega),thn_nx]
       rfl
      ·have qc:(decide (0<=c.rel) && decide (c.rel<=(t.rels.length:Int) - 1))=false:=by simpa using h4
       rw[qc]
       rfl),bnd_s,thn_nx,<- Ej,Bool.not_not]
   ·have qa:(24:Int)<(x.cons.length:Int):=by omega
    simp [h3,qa]
  ·have qe:(decide (1<=x.vars) && decide (x.vars<=10))=false:=by simpa using h2
   rw[qe];exact⟨rfl,rfl⟩
 ·have qf:nC t=false:=by simpa using h1
  rw[qf];exact⟨rfl,rfl⟩
theorem xIw {x:A7} (h:sU t x=true):(1<=x.vars/\x.vars<=10)/\x.cons.length<=24/\∀ c∈x.cons,CV t x.vars c:=by
 unfold sU at h
 simp only[Ba,Bg] at h;obtain⟨_,h2,h3,h4⟩:=h;refine⟨h2,by omega,λc hc=>?_⟩;have h5:=Ci.1 h4 c hc
 unfold xVm at h5
 simp only[Ba,Bg] at h5;obtain⟨qa,h7,h8⟩:=h5
 have h9:(c.scope.length:Int)=(t.rels.getD c.rel.toNat default).arity:=by simpa using h7
 refine⟨λi hi=>?_,_,qa.1,?_,?_,h9⟩
 ·have:=Ci.1 h8 i hi
  unfold okV at this
  simp at this
  omega
 ·rw[Ao,Aa (by omega)];rfl
 ·rw[Ao,Aa (show c.rel.toNat<t.rels.length by omega)]
  exact Bn _
def CW (u:A6) (n:Int) (c:Con):Prop:=CV u n c/\c.scope.length<=4
def xDm (u:A6) (vs:List Int) (c:Con):Bool:=decide (atV vs c.scope∈(u.rels.getD c.rel.toNat default).tuples)
end
section
variable {t:A6} {T:Nat} {y:A7}
theorem xLc {ρ:Type} {T:Int} {f:Nat->List (List Int)->Option (Ctl (List (List Int)) ρ)} {d:List Int} (hf:∀ k s,s.length<=1000->f k s=some (.go (s++[d]))):∀ (m k:Nat) (s:List (List Int)),s.length+m<=1000->qM f m k s=some (.nx (s++List.replicate m d))
 | 0,k,s,h=>by simp [qM]
 | m+1,k,s,h=>by
  rw[zM (hf k s (by omega)),xLc (T:=T) hf m (k+1) _ (by simp;omega),De,Df]
  rfl
theorem xNi (hu:TV T t) (hv:1<=y.vars/\y.vars<=10):eL t y=some (List.replicate y.vars.toNat (rJ 0 T)):=by
 have hT:=hu.t
 unfold eL
 rw[xLc (T:=0) (d:=rJ 0 T) (λk s hs=>by
  rw[hu.s,xJb (by omega) (by omega),bnd_s,kX (by simp only[Am,Bi];omega),bnd_s]) y.vars.toNat 0 [] (by simp only[Bi];omega),thn_nx,Bp]
theorem xNd (hu:TV T t) (hv:1<=y.vars/\y.vars<=10):mN t y=some (List.replicate y.vars.toNat (rJ 0 T)):=by
 have hT:=hu.t
 unfold mN
 rw[xLc (T:=0) (d:=rJ 0 T) (λk s hs=>by
  rw[hu.s,oAm (by omega),bnd_s,kX (by simp only[Am,Bi];omega),bnd_s]) y.vars.toNat 0 [] (by simp only[Bi];omega),thn_nx,Bp]
theorem oDd (m:Nat) (d:List Int):tot (List.replicate m d)=m*d.length:=by
 unfold tot
 rw[List.map_replicate,List.sum_replicate_nat]
theorem xSl (V:Int) (m:Nat):(rJ V m).Nodup:=by
 unfold rJ
 refine List.Pairwise.map _ (λa b h=>?_) (List.nodup_range (n:=m));intro h2;exact h (by omega)
theorem xXg (hu:TV T t) {c:Con} (h:CV t y.vars c) (hv:1<=y.vars):ConOk t c y.vars.toNat:=by
 obtain⟨h1,r,r0,r1,r2,r3⟩:=h;obtain⟨n,e,n1,n4,_,hm⟩:=hu.r r r2;exact⟨⟨r,lK r0 r1,λa ha=>by have:=(cK.1 (hm a ha)).1;omega⟩,λv hv=>by have:=h1 v hv;omega,by omega⟩
theorem oJj {n:Int} (hu:TV T t) {c:Con} (h:CV t n c):CW t n c:=by
 obtain⟨h1,r,r0,r1,r2,r3⟩:=h;obtain⟨m,e,n1,n4,_,hm⟩:=hu.r r r2;exact⟨⟨h1,r,r0,r1,r2,r3⟩,by omega⟩
end
section
variable {T:Nat} {N:Nat}
theorem xDf:dY=kV:=rfl
theorem oHl (f:Nat->Nat) (h:∀ j,j+1<T->f j<f (j+1)) (hT:∀ j,j<T->f j<T):∀ j,j<T->f j=j:=by
 have h1:∀ j,j<T->j<=f j:=by
  intro j
  induction j with
  | zero=>intro _;omega
  | succ j ih=>intro hj;have:=ih (by omega);have:=h j hj;omega
 have h2:∀ d j,j+d+1=T->f j+d<T:=by
  intro d
  induction d with
  | zero=>intro j hj;exact hT j (by omega)
  | succ d ih=>intro j hj;have:=ih (j+1) (by omega);have:=h j (by omega);omega
 intro j hj;have:=h1 j hj;have:=h2 (T - 1 - j) j (by omega)
 omega
theorem xQk {ρ:Type} {T:Int} (hT:1<=T):∀ (i:Nat) (r:Int) (d:List Int) (N:Nat),i<=d.length->i<=1000->0<=r->r<=9223372036854775807->(∀ a∈d,0<=a/\a<T)->i+1<=N->
 ∃ r' j d',mL (σ:=Int×Int×(List Int)) (ρ:=ρ) (λs=>match s with | (s64,s1,s2)=>if (decide (0<=s1)) then xG (rm s64 T) λz1=>xG (ix s2 s1) λz2=>xG (dv s64 T) λz3=>xG (ck (s1 - 1)) λz4=>some (.go (z3,z4,(s2.set (s1).toNat z1))) else some (.brk (s64,s1,s2))) N (r,(i:Int) - 1,d)=some (.nx (r',j,d'))/\d'.length=d.length/\∀ a∈d',0<=a/\a<T
 | 0,r,d,N,_,_,h0,h1,hd,hN=>by
  obtain⟨M,rfl⟩:∃ M,N=M+1:=⟨N - 1,by omega⟩;refine⟨r,((0:Nat):Int) - 1,d,bY ?_,rfl,hd⟩
  simp
 | i+1,r,d,N,hi,hi2,h0,h1,hd,hN=>by
  obtain⟨M,rfl⟩:∃ M,N=M+1:=⟨N - 1,by omega⟩
  have e1:((i+1:Nat):Int) - 1=(i:Int):=by omega
  have hx:d[i]?=some (d[i]'(by omega)):=Aa (by omega);have qa:=Ev r (show T≠0 by omega);have qc:=Ec r (show 0<T by omega)
  have hr:rm r T=some (r % T):=by unfold rm;rw[if_neg (by omega),Cm h0]
  have qd:=Int.ediv_nonneg h0 (show 0<=T by omega);have hq1:=Int.ediv_le_self T h0
  have qe:dv r T=some (r / T):=by unfold dv;rw[if_neg (by omega),Int.tdiv_eq_ediv_of_nonneg h0];exact zJ (by omega) (by omega)
  obtain⟨r',j,d',h2,h3,h4⟩:=xQk (ρ:=ρ) hT i (r / T) (d.set i (r % T)) M (by rw[Cn];omega) (by omega) qd (by omega) (λa ha=>by
   rcases Cx ha with h | rfl
   ·exact hd a h
   ·exact⟨qa,qc⟩) (by omega)
  refine⟨r',j,d',?_,by rw[h3,Cn],h4⟩;rw[e1]
  rw[eT (s':=(r / T,(i:Int) - 1,d.set i (r % T))) (by
   have qf:(0:Int)<=(i:Int):=by omega
   simp only[qf,decide_true,if_true,hr,bnd_s,vE hx,qe,zJ (x:=(i:Int) - 1) (by omega) (by omega),Ad])]
  exact h2
theorem xDj {T k:Int} {m:Nat} (hT:1<=T) (hm:m<=1000) (h0:0<=k) (h1:k<=9223372036854775807) (hN:m+1<=N):∃ d,qQ N T (m:Int) k=some d/\d.length=m/\∀ a∈d,0<=a/\a<T:=by
 unfold qQ
 have hz:pN (0:Int) (m:Int)=some (List.replicate m 0):=by unfold pN;rw[if_pos ⟨by omega,by omega⟩];simp
 rw[hz,bnd_s,zJ (x:=(m:Int) - 1) (by omega) (by omega),bnd_s];obtain⟨r',j,d',h2,h3,h4⟩:=xQk (ρ:=List Int) hT m k (List.replicate m 0) N (by simp) hm h0 h1 (λa ha=>by have:=Ca ha;omega) hN;rw[h2];exact⟨d',rfl,by rw[h3,Bv],h4⟩
theorem mQ {α β ρ:Type} (d:List α) (g:α->β) {b:Nat->α->List β->Option (Ctl (List β) ρ)}
 (h1:∀ (i:Nat) x s,d[i]?=some x->s.length=i->b i x s=some (.go (s++[g x]))) :
 ∀ (r:List α) (i:Nat) (s:List β),d.drop i=r->s.length=i->oM b r i s=some (.nx (s++r.map g))
 | [],i,s,hr,hs=>by simp
 | t::r,i,s,hr,hs=>by
  have ht:d[i]?=some t:=by rw[<- Ek,hr];rfl
  have hd:d.drop (i+1)=r:=by rw[<- Eg,hr];rfl
  rw[vQ (h1 i t s ht hs),mQ d g h1 r (i+1) (s++[g t]) hd (by simp [hs])]
  simp
theorem xUg {T:Int} {m:Nat} (h0:0<=T) (h1:T<=1048576) (hm:1<=m/\m<=3) (hN:5<=N):∃ p,vA T (m:Int)=some p/\qD N T (m:Int)=some p/\0<=p/\p<=1152921504606846976/\(T=0->p=0):=by
 obtain⟨M,rfl⟩:∃ M,N=M+5:=⟨N - 5,by omega⟩;have b2:0<=T*T/\T*T<=1048576*1048576:=⟨Eh h0 h0,Int.mul_le_mul h1 h1 h0 (by omega)⟩;have b3:0<=T*T*T/\T*T*T<=1048576*1048576*1048576:=⟨Eh b2.1 h0,Int.mul_le_mul b2.2 h1 h0 (by omega)⟩;have c1:ck T=some T:=zJ (by omega) (by omega);have c2:ck (T*T)=some (T*T):=zJ (by omega) (by omega);have c3:ck (T*T*T)=some (T*T*T):=zJ (by omega) (by omega)
 have k1:ck 0=some 0:=by decide
 have k2:ck 1=some 1:=by decide
 have k3:ck 2=some 2:=by decide
 match m,hm with
 | 1,_=>exact⟨T,by simp [vA,qM,c1],by simp [qD,mL,c1,k1],by omega,by omega,λh=>h⟩
 | 2,_=>exact⟨T*T,by simp [vA,qM,c1,c2],by simp [qD,mL,c1,c2,k1,k2],by omega,by omega,λh=>by rw[h];rfl⟩
 | 3,_=>exact⟨T*T*T,by simp [vA,qM,c1,c2,c3],by simp [qD,mL,c1,c2,c3,k1,k2,k3],by omega,by omega,λh=>by rw[h];rfl⟩
theorem uZ {α β σ ρ:Type} (g:α->β) {b:Nat->α->σ->Option (Ctl σ ρ)} {b':Nat->β->σ->Option (Ctl σ ρ)}:∀ (l:List α) (i:Nat) (s:σ),(∀ i x s,x∈l->b i x s=b' i (g x) s)->oM b l i s=oM b' (l.map g) i s
 | [],_,_,_=>rfl
 | x::l,i,s,h=>by
  have ih:=λs'=>uZ g l (i+1) s' (λi y s hy=>h i y s (by simp [hy]));simp only[Da,oM,h i x s (by simp)]
  cases b' i (g x) s with
  | none=>rfl
  | some c=>cases c<;>simp only[ih]
theorem sE {β ρ:Type} {n:Nat} (g:Nat->β) {b:Nat->List β->Option (Ctl (List β) ρ)} (h1:∀ (i:Nat) s,i<n->s.length=i->b i s=some (.go (s++[g i]))) : ∀ (m k:Nat) (s:List β),s.length=k->k+m<=n->qM b m k s=some (.nx (s++(List.range' k m).map g))
 | 0,k,s,hs,_=>by simp [qM]
 | m+1,k,s,hs,hk=>by
  rw[zM (h1 k s (by omega) hs),sE g h1 m (k+1) (s++[g k]) (by simp [hs]) (by omega)]
  simp [Ds]
theorem xOk {α β ρ:Type} {n:Nat} (g:Nat->β) {b:Nat->α->List β->Option (Ctl (List β) ρ)} (h1:∀ (i:Nat) x s,i<n->s.length=n->b i x s=some (.go (s.set i (g i)))) : ∀ (l:List α) (k:Nat) (s:List β),s.length=n->k+l.length<=n->∃ s',oM b l k s=some (.nx s')/\s'.length=n/\∀ j,s'[j]?=if k<=j/\j<k+l.length then some (g j) else s[j]?
 | [],k,s,hs,_=>⟨s,rfl,hs,λj=>by rw[if_neg (by simp)]⟩
 | x::l,k,s,hs,hk=>by
  rw[Am] at hk;obtain⟨s',h2,h3,h4⟩:=xOk g h1 l (k+1) (s.set k (g k)) (by simpa using hs) (by omega);refine⟨s',by rw[vQ (h1 k x s (by omega) hs)];exact h2,h3,λj=>?_⟩;rw[h4 j,Am,List.getElem?_set]
  by_cases hj:k=j
  ·subst hj
   rw[if_neg (by omega),if_pos rfl,if_pos (by omega),if_pos (by omega)]
  ·rw[if_neg hj]
   by_cases qa:k+1<=j/\j<k+1+l.length
   ·rw[if_pos qa,if_pos (by omega)]
   ·rw[if_neg qa,if_neg (by omega)]
theorem xQe {ρ ρ':Type} {f:Nat->Unit->Option (Ctl Unit ρ)} {g:Nat->Unit->Option (Ctl Unit ρ')} (Q:ρ->Prop) (Q':ρ'->Prop):∀ {m k:Nat},(∀ j,k<=j->j<k+m->(f j ()=some (.go ())/\g j ()=some (.go ()))∨∃ r r',f j ()=some (.ret r)/\g j ()=some (.ret r')/\Q r/\Q' r')->(qM f m k ()=some (.nx ())/\qM g m k ()=some (.nx ()))∨∃ r r',qM f m k ()=some (.ret r)/\qM g m k ()=some (.ret r')/\Q r/\Q' r'
 | 0,_,_=>.inl ⟨rfl,rfl⟩
 | m+1,k,h=>by
  rcases h k (Az _) (by omega) with ⟨h1,h2⟩ | ⟨r,r',h1,h2,h3,h4⟩
  ·rw[zM h1,zM h2]
   exact xQe Q Q' (λj hj hj2=>h j (by omega) (by omega))
  ·exact .inr ⟨r,r',mR h1,mR h2,h3,h4⟩
theorem xDx {ρ:Type} {f:Nat->Unit->Option (Ctl Unit ρ)}:∀ {m k:Nat},(∀ j,k<=j->j<k+m->f j ()=some (.go ()))->qM f m k ()=some (.nx ())
 | 0,_,_=>rfl
 | m+1,k,h=>by
  rw[zM (h k (Az _) (by omega))];exact xDx (λj hj hj2=>h j (by omega) (by omega))
def bK (T:Nat) (l:List Int):Prop:=∀ a∈l,0<=a/\a<(T:Int)
def uF (T:Nat) (s:Int) (l:List Int):Int:=l.foldl (λa x=>a*(T:Int)+x) s
def zV (T:Nat) (l:List Int):Int:=uF T 0 l
theorem xEt {T:Nat}:∀ (l:List Int) (s:Int),1<=T->bK T l->0<=s->0<=uF T s l/\s*((T ^ l.length:Nat):Int)<=uF T s l/\uF T s l<(s+1)*((T ^ l.length:Nat):Int)
 | [],s,hT,hb,h0=>by simp [uF];omega
 | x::l,s,hT,hb,h0=>by
  have hx:=hb x (by simp);have hsT:0<=s*(T:Int):=Eh h0 (by omega);obtain⟨h1,h2,h3⟩:=xEt l (s*(T:Int)+x) hT (λa ha=>hb a (by simp [ha])) (by omega);have e:uF T s (x::l)=uF T (s*(T:Int)+x) l:=rfl
  have hP:(0:Int)<=((T ^ l.length:Nat):Int):=by omega
  have qa:((T ^ (x::l).length:Nat):Int)=(T:Int)*((T ^ l.length:Nat):Int):=by rw[Am,Nat.pow_succ,Int.natCast_mul,Int.mul_comm]
  rw[e,qa];generalize ((T ^ l.length:Nat):Int)=P at *;refine⟨h1,?_,?_⟩
  ·have:s*((T:Int)*P)<=(s*(T:Int)+x)*P:=by rw[<- Int.mul_assoc,Int.add_mul];have:=Eh hx.1 hP;omega
   omega
  ·have h4:(s*(T:Int)+x+1)*P<=((s+1)*(T:Int))*P:=Int.mul_le_mul_of_nonneg_right (by rw[Int.add_mul];omega) hP
   rw[Int.mul_assoc] at h4
   omega
theorem wX {ρ:Type} {T:Nat} (qc:1<=T/\T<=4):∀ (l:List Int) (k:Nat) (s:Int),bK T l->0<=s->(s+1)*((T ^ l.length:Nat):Int)<=1000->
 oM (σ:=Int) (ρ:=ρ) (λk1 x1 s1=>xG (ck (s1*(T:Int))) λz1=>xG (ck (z1+x1)) λz2=>some (.go z2)) l k s=some (.nx (uF T s l))
 | [],_,_,_,_,_=>rfl
 | x::l,k,s,hb,h0,h1=>by
  have hx:=hb x (by simp)
  have hP:(1:Int)<=((T ^ l.length:Nat):Int):=by have:=Nat.pow_pos (n:=l.length) (show 0<T by omega);omega
  have qd:((T ^ (x::l).length:Nat):Int)=(T:Int)*((T ^ l.length:Nat):Int):=by rw[Am,Nat.pow_succ,Int.natCast_mul,Int.mul_comm]
  rw[qd] at h1;obtain⟨P,qa⟩:∃ P,P=((T ^ l.length:Nat):Int):=⟨_,rfl⟩;rw[<- qa] at hP h1;have hsT:0<=s*(T:Int):=Eh h0 (by omega)
  have h3:(s*(T:Int)+x+1)*P<=(s+1)*((T:Int)*P):=by
   have:(s*(T:Int)+x+1)*P<=((s+1)*(T:Int))*P:=Int.mul_le_mul_of_nonneg_right (by rw[Int.add_mul];omega) (by omega);rw[Int.mul_assoc] at this;exact this
  have h4:s*(T:Int)+x+1<=1000:=by
   have:(s*(T:Int)+x+1)*1<=(s*(T:Int)+x+1)*P:=Dn hP (by omega)
   omega
  rw[vQ (s':=s*(T:Int)+x) (by simp only[zJ (x:=s*(T:Int)) (by omega) (by omega),bnd_s,zJ (x:=s*(T:Int)+x) (by omega) (by omega)])];exact wX qc l (k+1) (s*(T:Int)+x) (λa ha=>hb a (by simp [ha])) (by omega) (by rw[<- qa];omega)
theorem rD {k:Nat} (qa:1<=T/\T<=4) (hk:k<5):1<=T ^ k/\T ^ k<=256:=by
 have h1:T ^ k<=4 ^ k:=Nat.pow_le_pow_left qa.2 k;have h2:4 ^ k<=4 ^ 4:=Nat.pow_le_pow_right (by omega) (by omega);have h3:=Nat.pow_pos (n:=k) (show 0<T by omega);have h4:4 ^ 4=256:=rfl
 omega
theorem sZ {l:List Int} (qa:1<=T/\T<=4) (h:bK T l) (hl:l.length<5):kV (T:Int) l=some (zV T l)/\0<=zV T l/\zV T l<((T ^ l.length:Nat):Int):=by
 have hp:=rD qa hl;obtain⟨h1,h2,h3⟩:=xEt l 0 qa.1 h (by omega);refine⟨?_,h1,by simpa [zV] using h3⟩
 unfold kV
 rw[wX qa l 0 0 h (by omega) (by omega)]
 rfl
theorem xRx {T:Nat} (hT:1<=T):∀ (a b:List Int) (s:Int),bK T a->bK T b->a.length=b.length->0<=s->dB a b<0->uF T s a<uF T s b
 | [],[],s,_,_,_,_,h=>by simp [dB] at h
 | x::a,y::b,s,ha,hb,hl,h0,h=>by
  have hx:=ha x (by simp);have hy:=hb y (by simp);have hsT:0<=s*(T:Int):=Eh h0 (by omega);have e1:uF T s (x::a)=uF T (s*(T:Int)+x) a:=rfl;have e2:uF T s (y::b)=uF T (s*(T:Int)+y) b:=rfl;rw[e1,e2]
  have qc:a.length=b.length:=by simpa using hl
  have ba:bK T a:=λz hz=>ha z (by simp [hz]);have bb:bK T b:=λz hz=>hb z (by simp [hz])
  unfold dB tX at h
  rcases Int.lt_trichotomy x y with qa | qa | qa
  ·have h1:=(xEt a (s*(T:Int)+x) hT ba (by omega)).2.2
   have h2:=(xEt b (s*(T:Int)+y) hT bb (by omega)).2.1;rw[qc] at h1;have h3:(s*(T:Int)+x+1)*((T ^ b.length:Nat):Int)<=(s*(T:Int)+y)*((T ^ b.length:Nat):Int):=Int.mul_le_mul_of_nonneg_right (by omega) (by omega)
   omega
  ·subst qa
   refine xRx hT a b _ ba bb qc (by omega) ?_
   simpa using h
  ·exfalso
   have h1:¬ x<y:=by omega
   simp [h1,qa] at h
theorem oCx {a b:List Int} (qa:1<=T/\T<=4) (ha:bK T a) (hb:bK T b) (hl:a.length=b.length) (h5:a.length<5) (h:dB a b<0):zV T a<zV T b:=xRx qa.1 a b 0 ha hb hl (by omega) h
theorem xYw:∀ T:Nat,T<5->∀ n:Nat,n<5->1<=T->vA (T:Int) (n:Int)=some ((T ^ n:Nat):Int)/\qD 10 (T:Int) (n:Int)=some ((T ^ n:Nat):Int):=by decide +kernel
theorem tD {n:Nat} (qa:1<=T/\T<=4) (hn:n<5) (hN:10<=N):vA (T:Int) (n:Int)=some ((T ^ n:Nat):Int)/\qD N (T:Int) (n:Int)=some ((T ^ n:Nat):Int):=by
 have h:=xYw T (by omega) n hn qa.1;exact⟨h.1,xDi h.2 hN⟩
theorem oIy {l:List Int} (hT4:1<=T/\T<=4) (h:bK T l) (j:Nat):0<=l.getD j 0/\l.getD j 0<(T:Int):=by
 rw[Ao]
 rcases hj:l[j]? with _ | a
 ·simp;omega
 ·simpa using h a (Ae hj)
theorem kK {l:List Int} {j:Nat} {a:Int} (h:l[j]?=some a):l.getD j 0=a:=by rw[Ao,h];rfl
def xLj (T:Nat) (l:List (List Int)) (s:List Bool):List Bool:=l.foldl (λs t=>s.set (zV T t).toNat true) s
theorem yK {T:Nat}:∀ (l:List (List Int)) (s:List Bool),(xLj T l s).length=s.length
 | [],_=>rfl
 | t::l,s=>by
  show(xLj T l (s.set (zV T t).toNat true)).length=s.length
  rw[yK l];simp
theorem xJq {T:Nat}:∀ (l:List (List Int)) (s:List Bool) (v:Nat),s[v]?=some true->(xLj T l s)[v]?=some true
 | [],_,_,h=>h
 | t::l,s,v,h=>by
  refine xJq l _ v ?_;rw[List.getElem?_set]
  split
  ·have:(zV T t).toNat<s.length:=by have:=(Ac.1 h).1;omega
   simp_all
  ·exact h
theorem xOj {T:Nat}:∀ (l:List (List Int)) (s:List Bool) (t:List Int),t∈l->(zV T t).toNat<s.length->(xLj T l s)[(zV T t).toNat]?=some true
 | [],_,_,h,_=>by cases h
 | u::l,s,t,h,hl=>by
  rcases Av.1 h with rfl | h
  ·exact xJq l _ _ (by rw[List.getElem?_set,if_pos rfl,if_pos hl])
  ·exact xOj l _ t h (by simpa using hl)
theorem xBj {T:Nat} (qa:1<=T/\T<=4) {ρ:Type} {n:Nat} (hn:n<5):∀ (l:List (List Int)) (k:Nat) (s:List Bool),(∀ t∈l,bK T t/\t.length=n)->s.length=T ^ n->
 oM (σ:=List Bool) (ρ:=ρ) (λk1 (x1:(List Int)) s1=>xG (kV (T:Int) x1) λz1=>xG (ix s1 z1) λz2=>some (.go (s1.set (z1).toNat true))) l k s=some (.nx (xLj T l s))
 | [],_,_,_,_=>rfl
 | t::l,k,s,h,hs=>by
  obtain⟨h1,h2⟩:=h t (by simp);obtain⟨c1,c2,c3⟩:=sZ qa h1 (by omega);rw[h2] at c3
  have qc:(zV T t).toNat<s.length:=by rw[hs];omega
  have hx:ix s (zV T t)=some (s[(zV T t).toNat]'qc):=lK c2 (Aa qc);rw[vQ (s':=s.set (zV T t).toNat true) (by simp only[c1,bnd_s,hx])];exact xBj qa hn l (k+1) _ (λu hu=>h u (by simp [hu])) (by simpa using hs)
def col (fS:List (List Int)) (k:Nat):List Int:=fS.map λt=>t.getD k 0
def xPt (T:Nat) (o:Op) (fS:List (List Int)) (k:Nat):Int:=o.table.getD (zV T (col fS k)).toNat 0
def mkR (T:Nat) (o:Op) (fS:List (List Int)) (n:Nat):List Int:=(List.range' 0 n).map (xPt T o fS)
structure B9 (T:Nat) (o:Op) (m:Nat):Prop where
  ar:o.arity=m
  m1:1<=m
  m3:m<=3
  tl:o.table.length=T ^ m
  tb:bK T o.table
theorem xCa (qa:1<=T/\T<=4) {fS:List (List Int)} {n:Nat} (h:∀ t∈fS,bK T t/\t.length=n) (k:Nat):bK T (col fS k):=by
 intro a ha;obtain⟨t,ht,rfl⟩:=Cv.1 ha;exact oIy qa (h t ht).1 k
theorem xSp (qc:1<=T/\T<=4) {o:Op} {m:Nat} (ho:B9 T o m) {fS:List (List Int)} {n:Nat} (h:∀ t∈fS,bK T t/\t.length=n) (hm:fS.length=m) (k:Nat):kV (T:Int) (col fS k)=some (zV T (col fS k))/\ix o.table (zV T (col fS k))=some (xPt T o fS k)/\(0<=xPt T o fS k/\xPt T o fS k<(T:Int)):=by
 have hl:(col fS k).length=m:=by unfold col;rw[Bu,hm]
 obtain⟨c1,c2,c3⟩:=sZ qc (xCa qc h k) (by have:=ho.m3;omega);rw[hl] at c3
 have qa:(zV T (col fS k)).toNat<o.table.length:=by rw[ho.tl];omega
 have hx:o.table[(zV T (col fS k)).toNat]?=some (o.table[(zV T (col fS k)).toNat]'qa):=Aa qa;have hv:xPt T o fS k=o.table[(zV T (col fS k)).toNat]'qa:=kK hx;refine⟨c1,?_,?_⟩
 ·rw[hv];exact lK c2 hx
 ·rw[hv];exact ho.tb _ (Bn qa)
theorem oBz (qd:1<=T/\T<=4) {o:Op} {m n:Nat} (ho:B9 T o m) (hn:n<=4) {fS:List (List Int)} (h:∀ t∈fS,bK T t/\t.length=n) (hm:fS.length=m):mY (T:Int) o fS=some (mkR T o fS n):=by
 have hm1:=ho.m1;have hm3:=ho.m3;have hx:fS[0]?=some (fS[0]'(by omega)):=Aa (by omega);have qc:=(h _ (Ae hx)).2;generalize fS[0]'(by omega)=t0 at hx qc
 unfold mY
 rw[show ix fS 0=some t0 from vE hx,bnd_s,qc,show((n:Nat):Int).toNat=n from by omega]
 rw[sE (n:=n) (xPt T o fS) (λi s hi hs=>by
  rw[mQ fS (λt=>t.getD i 0) (λj x s2 hj hs2=>by
   have hxt:=h x (Ae hj);have hjl:=(Ac.1 hj).1;have qa:x[i]?=some (x[i]'(by omega)):=Aa (by omega);generalize x[i]'(by omega)=y at qa
   simp only[vE qa,bnd_s,kX (l:=s2) (m:=[y]) (by simp;omega),kK qa]) fS 0 [] rfl rfl]
  obtain⟨v1,v2,v3⟩:=xSp qd ho h hm i
  unfold col at v1 v2
  simp only[thn_nx,Bp]
  unfold qV
  simp only[v1,bnd_s,v2,kX (l:=s) (m:=[xPt T o fS i]) (by simp;omega)]) n 0 [] rfl (by omega)]
 rfl
theorem oEc (qc:1<=T/\T<=4) {o:Op} {m n:Nat} (ho:B9 T o m) (hn:n<=4) {fS:List (List Int)} (h:∀ t∈fS,bK T t/\t.length=n) (hm:fS.length=m):tP (T:Int) o fS=some (mkR T o fS n):=by
 have hm1:=ho.m1;have hm3:=ho.m3;have hx:fS[0]?=some (fS[0]'(by omega)):=Aa (by omega);have qe:=(h _ (Ae hx)).2;generalize fS[0]'(by omega)=t0 at hx qe
 have hz:pN (0:Int) (n:Int)=some (List.replicate n 0):=by unfold pN;rw[if_pos ⟨by omega,by omega⟩];simp
 unfold tP
 rw[show ix fS 0=some t0 from vE hx,bnd_s,qe,hz,bnd_s]
 obtain⟨s',h2,h3,h4⟩:=xOk (α:=Int) (ρ:=List Int) (n:=n) (xPt T o fS) (b:=λ(k1:Nat) (x1:Int) (s1:(List Int))=>oZ (σ:=Int) (oM (λk2 (x2:(List Int)) s3=>xG (ck (s3*(T:Int))) λz1=>xG (ix x2 (k1:Int)) λz2=>xG (ck (z1+z2)) λz3=>some (.go z3)) fS 0 0) λs4=>xG (ix o.table s4) λz4=>xG (ix s1 (k1:Int)) λz5=>some (.go (s1.set ((k1:Int)).toNat z4))) (λi x s hi hs=>by
  obtain⟨v1,v2,v3⟩:=xSp qc ho h hm i
  have hcl:(col fS i).length<=3:=by unfold col;rw[Bu];omega
  have hp:((0:Int)+1)*((T ^ (col fS i).length:Nat):Int)<=1000:=by
   have:=rD qc (k:=(col fS i).length) (by omega)
   omega
  have qf:s[i]?=some (s[i]'(by omega)):=Aa (by omega);generalize s[i]'(by omega)=y at qf
  rw[uZ (λt=>t.getD i 0) (b':=λ(k3:Nat) (x3:Int) (s5:Int)=>xG (ck (s5*(T:Int))) λz6=>xG (ck (z6+x3)) λz7=>some (.go z7)) fS 0 0 (λj t s2 ht=>by
   have hxt:=h t ht;have qd:t[i]?=some (t[i]'(by omega)):=Aa (by omega);generalize t[i]'(by omega)=y at qd
   simp only[vE qd,bnd_s,kK qd])]
  have qa:=wX qc (ρ:=(Ctl ((List Int)) (List Int))) (col fS i) 0 0 (xCa qc h i) (by omega) hp
  unfold col at qa
  rw[qa];have v2':ix o.table (uF T 0 (List.map (λt=>t.getD i 0) fS))=some (xPt T o fS i):=v2
  simp only[thn_nx,v2',bnd_s,vE qf,Ad]) (List.replicate n 0) 0 (List.replicate n 0) (by simp) (by simp)
 rw[h2,thn_nx]
 congr 1
 apply Cs
 intro j;rw[h4 j]
 unfold mkR
 by_cases hj:j<n
 ·rw[if_pos (by simp;omega),Ay,List.getElem?_range' hj]
  simp
 ·rw[if_neg (by simp;omega),Cg (by simp;omega),Cg (by simp;omega)]
def FB (T N : Nat) (x1 : Op) (x2 : Rel) (S : List Bool) (k1 : Nat) (s : Unit) : Option (Ctl Unit ((List (List Int)) × (List Int) × Bool)) := match s with
      | _=>xG (vZ N (x2.tuples.length:Int) x1.arity (k1:Int)) λz1=>oZ (σ:=List (List Int)) (oM (λk2 (x3:Int) s1=>xG (ix x2.tuples x3) λz2=>xG (ap s1 ([z2])) λz3=>some (.go z3)) z1 0 []) λs2=>xG (mY (T:Int) x1 s2) λz4=>xG (kV (T:Int) z4) λz5=>xG (ix S z5) λz6=>if (!z6) then oZ (σ:=List (List Int)) (oM (λk3 (x4:(List Int)) s3=>xG (zO x4) λz7=>xG (ap s3 ([z7])) λz8=>some (.go z8)) s2 0 []) λs4=>some (.ret (s4,z4,true)) else some (.go ())
def GB (T N : Nat) (x1 : Op) (x2 : Rel) (S : List Bool) (k1 : Nat) (s : Unit) : Option (Ctl Unit ((List (List Int)) × (List Int))) := match s with
        | _=>xG (qQ N (x2.tuples.length:Int) x1.arity (k1:Int)) λz1=>oZ (σ:=List (List Int)) (oM (λk2 (x3:Int) s1=>xG (ix x2.tuples x3) λz2=>xG (ap s1 ([z2])) λz3=>some (.go z3)) z1 0 []) λs2=>xG (tP (T:Int) (Op.mk x1.arity x1.table) s2) λz4=>xG (dY (T:Int) z4) λz5=>xG (ix S z5) λz6=>if (!z6) then xG (nev z4) λz7=>some (.ret (s2,z4)) else some (.go ())
theorem oHe (qa:1<=T/\T<=4) {o:Op} {m n:Nat} (ho:B9 T o m) {fS:List (List Int)} (h:∀ t∈fS,bK T t/\t.length=n) (hm:fS.length=m):bK T (mkR T o fS n)/\(mkR T o fS n).length=n:=by
 refine⟨λa ha=>?_,by unfold mkR;simp⟩
 unfold mkR at ha
 obtain⟨k,_,rfl⟩:=Cv.1 ha;exact(xSp qa ho h hm k).2.2
theorem xFu (qd:1<=T/\T<=4) {o:Op} {x:Rel} {m n k:Nat} {S:List Bool} (hN:10<=N) (ho:B9 T o m) (hn:1<=n/\n<=4) (hT:∀ t∈x.tuples,bK T t/\t.length=n) (h1:1<=x.tuples.length) (hk:(k:Int)<=9223372036854775807) (hS:S.length=T ^ n) :
 ∃ (R:List Int) (b:Bool) (e fS:List (List Int)),FB T N o x S k ()=some (if b then .go () else .ret (e,R,true))/\GB T N o x S k ()=some (if b then .go () else .ret (fS,R))/\R≠[]/\0<=zV T R/\zV T R<((T ^ n:Nat):Int)/\S[(zV T R).toNat]?=some b:=by
 have hm1:=ho.m1;have hm3:=ho.m3;obtain⟨d,d1,d2,d3⟩:=xDj (T:=(x.tuples.length:Int)) (k:=(k:Int)) (m:=m) (N:=N) (by omega) (by omega) (by omega) hk (by omega)
 let fS:=d.map λv=>x.tuples.getD v.toNat []
 have qf:∀ v∈d,ix x.tuples v=some (x.tuples.getD v.toNat []):=λv hv=>by
  have:=d3 v hv
  have qa:v.toNat<x.tuples.length:=by omega
  have he:x.tuples[v.toNat]?=some (x.tuples[v.toNat]'qa):=Aa qa;rw[Ao,he];exact lK this.1 he
 have qc:∀ t∈fS,bK T t/\t.length=n:=λt ht=>by
  obtain⟨v,hv,rfl⟩:=Cv.1 ht;have:=d3 v hv
  have qa:v.toNat<x.tuples.length:=by omega
  have he:x.tuples[v.toNat]?=some (x.tuples[v.toNat]'qa):=Aa qa;rw[Ao,he];exact hT _ (Bn qa)
 have qe:fS.length=m:=by show(d.map _).length=m;rw[Bu,d2]
 obtain⟨r1,r2⟩:=oHe qd ho qc qe;obtain⟨c1,c2,c3⟩:=sZ qd r1 (by omega);rw[r2] at c3
 have qa:(zV T (mkR T o fS n)).toNat<S.length:=by rw[hS];omega
 have hx:S[(zV T (mkR T o fS n)).toNat]?=some (S[(zV T (mkR T o fS n)).toNat]'qa):=Aa qa;generalize S[(zV T (mkR T o fS n)).toNat]'qa=b at hx
 have qg:mkR T o fS n≠[]:=λh=>by rw[h] at r2;simp at r2;omega
 have e1 := mQ (ρ := (Ctl (Unit) ((List (List Int)) × (List Int) × Bool))) d (λv => x.tuples.getD v.toNat []) (b := λ(k1 : Nat) (x1 : Int) (s1 : (List (List Int))) =>xG (ix x.tuples x1) λz1=>xG (ap s1 ([z1])) λz2=>some (.go z2))
  (λi v s hi hs=>by
   have qh:=(Ac.1 hi).1
   simp only[bnd_s,qf v (Ae hi),kX (l:=s) (m:=[x.tuples.getD v.toNat []]) (by simp;omega)]) d 0 [] rfl rfl
 have e2 := mQ (ρ := (Ctl (Unit) ((List (List Int)) × (List Int) × Bool))) fS (λt => t) (b := λ(k2 : Nat) (x2 : (List Int)) (s2 : (List (List Int))) =>xG (zO x2) λz3=>xG (ap s2 ([z3])) λz4=>some (.go z4))
  (λi t s hi hs=>by
   have qh:=(Ac.1 hi).1;have ht:=qc t (Ae hi)
   have qi:zO t=some t:=by unfold zO;rw[kX (by simp;omega)];rfl
   simp only[bnd_s,qi,kX (l:=s) (m:=[t]) (by simp;omega)]) fS 0 [] rfl rfl
 refine⟨mkR T o fS n,b,[]++fS.map (λt=>t),fS,?_,?_,qg,c2,c3,hx⟩
 ·unfold FB
  simp only[xNh,ho.ar,d1,bnd_s];rw[e1];simp only[thn_nx];rw[show[]++List.map (λv=>x.tuples.getD v.toNat []) d=fS from Bp _];simp only[oBz qd ho hn.2 qc qe,bnd_s,c1,lK c2 hx]
  cases b with
  | true=>rfl
  | false=>
   simp only[Cl,if_true];rw[e2]
   rfl
 ·unfold GB
  simp only[ho.ar,d1,bnd_s]
  rw[mQ d (λv=>x.tuples.getD v.toNat []) (λi v s hi hs=>by
   have qh:=(Ac.1 hi).1
   simp only[qf v (Ae hi),bnd_s,kX (l:=s) (m:=[x.tuples.getD v.toNat []]) (by simp;omega)]) d 0 [] rfl rfl]
  simp only[thn_nx];rw[show[]++List.map (λv=>x.tuples.getD v.toNat []) d=fS from Bp _];rw[show Op.mk (m:Int) o.table=o by rw[<- ho.ar]];simp only[oEc qd ho hn.2 qc qe,bnd_s,xDf,c1,lK c2 hx]
  cases b with
  | true=>rfl
  | false=>
   have qj:nev (mkR T o fS n)=some ():=by
    cases h:mkR T o fS n with
    | nil=>exact(qg h).elim
    | cons a l=>rfl
   simp only[Cl,if_true,qj,bnd_s]
   rfl
theorem oAr (qa:1<=T/\T<=4) {o:Op} {x:Rel} {m n:Nat} (hN:10<=N) (ho:B9 T o m) (har:x.arity=n) (hn:1<=n/\n<=4) (hT:∀ t∈x.tuples,bK T t/\t.length=n) (hlen:x.tuples.length<=1048576)
 (hs:∀ j t u,x.tuples[j]?=some t->x.tuples[j+1]?=some u->dB t u<0):∃ b,zY N (T:Int) o x=some b/\dP N (T:Int) o x=some b:=by
 obtain⟨n',rfl⟩:∃ n',n=n'+1:=⟨n - 1,by omega⟩;have qm:=ho.m1;have qn:=ho.m3;obtain⟨p1,p2⟩:=tD qa (n:=n'+1) (N:=N) (by omega) hN;rw[Int.natCast_add,Int.natCast_one] at p1 p2
 have qd:x.arity=(n':Int)+1:=by omega
 have h16:T ^ (n'+1)<=256:=(rD qa (by omega)).2;obtain⟨S,qf⟩:∃ S,S=xLj T x.tuples (List.replicate (T ^ (n'+1)) false):=⟨_,rfl⟩
 have qj:S.length=T ^ (n'+1):=by rw[qf,yK,Bv]
 have hz:pN (false:Bool) ((T ^ (n'+1):Nat):Int)=some (List.replicate (T ^ (n'+1)) false):=by
  unfold pN
  rw[if_pos ⟨by omega,by omega⟩,Ad]
 have qh:cX N (T:Int) x=some ((T:Int),(n':Int)+1,S):=by
  unfold cX nP
  rw[qd,p2,bnd_s,hz,bnd_s,bnd_s];rw[xBj qa (n:=n'+1) (by omega) x.tuples 0 _ hT (by rw[Bv]),thn_nx,<- qf]
 obtain⟨p,q1,q2,q3,q4,q5⟩:=xUg (T:=(x.tuples.length:Int)) (m:=m) (N:=N) (by omega) (by omega) ⟨qm,qn⟩ (by omega)
 have hF:lN N (T:Int) o x=oZ (qM (FB T N o x S) p.toNat 0 ()) (λ_=>some ([],[],false)):=by
  unfold lN
  rw[qh,bnd_s,show qD N (x.tuples.length:Int) o.arity=some p by rw[ho.ar];exact q2,bnd_s]
  rfl
 have qk:∀ k,k<0+p.toNat->1<=x.tuples.length/\(k:Int)<=9223372036854775807:=λk hk=>by
  refine⟨?_,by omega⟩
  rcases Nat.eq_zero_or_pos x.tuples.length with h | h
  ·have:=q5 (by omega);omega
  ·exact h
 by_cases qc:(x.tuples.length:Int)=((T ^ (n'+1):Nat):Int)
 ·have hfull':x.tuples.length=T ^ (n'+1):=by omega
  have qi:∀ v,v<T ^ (n'+1)->S[v]?=some true:=by
   have qe:∀ j,j<T ^ (n'+1)->x.tuples[j]?=some (x.tuples.getD j []):=λj hj=>by
    have:x.tuples[j]?=some (x.tuples[j]'(by omega)):=Aa (by omega);rw[Ao,this];rfl
   have qg:∀ j,j<T ^ (n'+1)->0<=zV T (x.tuples.getD j [])/\zV T (x.tuples.getD j [])<((T ^ (n'+1):Nat):Int):=λj hj=>by
    obtain⟨b1,b2⟩:=hT _ (Ae (qe j hj));have:=sZ qa b1 (by omega);rw[b2] at this;exact this.2
   have hr:=oHl (T:=T ^ (n'+1)) (λj=>(zV T (x.tuples.getD j [])).toNat) (λj hj=>by
    obtain⟨b1,b2⟩:=hT _ (Ae (qe j (by omega)));obtain⟨d1,d2⟩:=hT _ (Ae (qe (j+1) hj));have h1:=oCx qa b1 d1 (by omega) (by omega) (hs j _ _ (qe j (by omega)) (qe (j+1) hj));have h2:=qg j (by omega);have h3:=qg (j+1) hj
    show(zV T (x.tuples.getD j [])).toNat<(zV T (x.tuples.getD (j+1) [])).toNat
    omega) (λj hj=>by
    have:=qg j hj
    show(zV T (x.tuples.getD j [])).toNat<_
    omega)
   intro v hv
   have h1:=xOj (T:=T) x.tuples (List.replicate (T ^ (n'+1)) false) _ (Ae (qe v hv)) (by
    rw[Bv];have:=qg v hv
    omega)
   rw[show(zV T (x.tuples.getD v [])).toNat=v from hr v hv,<- qf] at h1;exact h1
  have qo:qM (FB T N o x S) p.toNat 0 ()=some (.nx ()):=xDx (λk qp hk=>by
   obtain⟨r1,r2⟩:=qk k hk;obtain⟨R,b,e,fS,e1,e2,e3,e4,e5,e6⟩:=xFu qa (N:=N) (k:=k) hN ho hn hT r1 r2 qj;rw[qi _ (by omega)] at e6;rw[e1,<- Option.some.inj e6]
   rfl)
  refine⟨true,?_,?_⟩
  ·unfold zY
   rw[hF,qo]
   rfl
  ·unfold dP lV
   rw[show(Rel.mk x.arity x.tuples)=x from rfl,qd,p1,bnd_s];rw[if_pos (by simpa using qc)]
   rfl
 ·have hG:lV N (T:Int) o x=oZ (qM (GB T N o x S) p.toNat 0 ()) (λ_=>some ([],[])):=by
   unfold lV
   rw[qd,p1,bnd_s,if_neg (by simpa using qc),hz,bnd_s];rw[xDf,xBj qa (n:=n'+1) (by omega) x.tuples 0 _ hT (by rw[Bv]),thn_nx,<- qf];rw[show vA (x.tuples.length:Int) o.arity=some p by rw[ho.ar];exact q1,bnd_s]
   rfl
  have ql:lV N (T:Int) (Op.mk o.arity o.table) (Rel.mk x.arity x.tuples)=oZ (qM (GB T N o x S) p.toNat 0 ()) (λ_=>some ([],[])):=hG
  rcases xQe (f:=FB T N o x S) (g:=GB T N o x S) (m:=p.toNat) (k:=0) (λr=>r.2.2=true) (λr=>r.2≠[]) (λk qp hk=>by
   obtain⟨r1,r2⟩:=qk k hk;obtain⟨R,b,e,fS,e1,e2,e3,e4,e5,e6⟩:=xFu qa (N:=N) (k:=k) hN ho hn hT r1 r2 qj
   cases b with
   | true=>exact .inl ⟨e1,e2⟩
   | false=>exact .inr ⟨_,_,e1,e2,rfl,e3⟩) with ⟨h1,h2⟩ | ⟨r,r',h1,h2,h3,h4⟩
  ·refine⟨true,?_,?_⟩
   ·unfold zY;rw[hF,h1];rfl
   ·unfold dP;rw[ql,h2];rfl
  ·refine⟨false,?_,?_⟩
   ·unfold zY
    rw[hF,h1]
    show xG (some r) _=_
    simp [h3]
   ·unfold dP
    rw[ql,h2]
    show xG (some r') _=_
    simp [h4]
end
section
variable {T:Nat} {N:Nat} {vs:List Int}
theorem xGp {u:A6} {c:Con} (hu:TV T u) (h:CW u vs.length c) (hN:1100<=N):bR u c vs=some (xDm u vs c)/\dI N c u vs=some (!xDm u vs c):=by
 obtain⟨⟨h1,r,r0,r1,r2,r3⟩,h2⟩:=h;have e1:=xJl (vs:=vs) h1 (by omega);have e2:=xVj (vs:=vs) h1 (by omega);obtain⟨m,_,_,_,qa,_⟩:=hu.r r r2
 have hg:u.rels.getD c.rel.toNat default=r:=by rw[Ao,r1];rfl
 have qc:=lK r0 r1
 unfold bR dI xDm
 rw[qc,bnd_s,bnd_s,e1,bnd_s,e2,bnd_s,hg];refine⟨?_,?_⟩
 ·rw[xHg,bnd_s]
 ·have:=xPh (N:=N) (r:=r) (t:=atV vs c.scope) qa (by have:=(hu.r r r2).len hu.t;omega) (by omega)
  rw[this,bnd_s]
theorem xWn {α:Type} (l:List α) (p:α->Bool) (f:α->Option Bool) (hf:∀ x∈l,f x=some (p x)):∃ i:Int,oZ (oM (σ:=Unit) (ρ:=Int) (λk (x:α) s=>match s with | _=>xG (f x) λz=>if (!z) then some (.ret ((k:Int))) else some (.go ())) l 0 ()) (λ_=>some (-1))=some i/\decide (0<=i)=l.any (λx=>!p x):=by
 obtain⟨i,h1,h2⟩:=uN l (λx=>!p x) (λx=>xG (f x) λz=>some (!z)) (λx hx=>by rw[hf x hx];rfl);refine⟨i,?_,h2⟩;rw[<- h1]
 congr 2
 funext k x s
 show xG (f x) _=xG (xG (f x) _) _
 cases f x<;>rfl
theorem xRy {u:A6} {y:A7} (hu:TV T u) (h:∀ c∈y.cons,CW u vs.length c) (hN:1100<=N):∃ i j,cD u y vs=some i/\mM N u y vs=some j/\decide (0<=i)=y.cons.any (λc=>!xDm u vs c)/\decide (0<=j)=y.cons.any (λc=>!xDm u vs c):=by
 obtain⟨i,h1,h2⟩:=xWn y.cons (xDm u vs) (λc=>bR u c vs) (λc hc=>(xGp hu (h c hc) hN).1);obtain⟨j,k1,k2⟩:=uN y.cons (λc=>!xDm u vs c) (λc=>dI N c u vs) (λc hc=>(xGp hu (h c hc) hN).2);refine⟨i,j,h1,?_,h2,k2⟩
 unfold mM kL
 have e:dI N=λa=>dI N a:=rfl;rw[k1,bnd_s]
theorem xRu.bits {r:Rel} (h:xRu T r):∃ n:Nat,r.arity=(n:Int)/\(1<=n/\n<=4)/\∀ t∈r.tuples,bK T t/\t.length=n:=by
 obtain⟨n,h1,h2,h3,_,h5⟩:=h;refine⟨n,h1,⟨h2,h3⟩,λt ht=>?_⟩;obtain⟨h6,h7⟩:=cK.1 (h5 t ht);exact⟨h7,h6⟩
theorem oGb {m:Nat} {r:Rel} {o:Op} (hN:10<=N) (qa:1<=T/\T<=4) (hr:xRu T r) (ho:B9 T o m):∃ b,zY N (T:Int) o r=some b/\dP N (T:Int) o r=some b:=by
 obtain⟨n,h1,h2,h3⟩:=hr.bits;have hl:=hr.len qa;obtain⟨_,_,_,_,ha,_⟩:=hr;exact oAr qa hN ho h1 h2 h3 (by omega) (λj t u ht hu=>ha.lt (Nat.lt_succ_self j) ht hu)
def gN (N T:Nat) (o:Op) (r:Rel):Bool:=(dP N (T:Int) o r).getD false
theorem xHd {m:Nat} {r:Rel} {o:Op} (hN:10<=N) (qa:1<=T/\T<=4) (hr:xRu T r) (ho:B9 T o m):zY N (T:Int) o r=some (gN N T o r)/\dP N (T:Int) o r=some (gN N T o r):=by
 obtain⟨b,h1,h2⟩:=oGb hN qa hr ho
 unfold gN
 rw[h2];exact⟨h1,rfl⟩
theorem xGt {α:Type} (l:List α) (p:α->Bool) (f:α->Option Bool) (hf:∀ x∈l,f x=some (p x)):oZ (oM (σ:=Unit) (ρ:=Int) (λk (x:α) s=>match s with | _=>xG (f x) λz=>if z then some (.ret ((k:Int))) else some (.go ())) l 0 ()) (λ_=>some (-1))=some (match fnd (λk x=>if p x then some (k:Int) else none) l 0 with | some i=>i | none=>-1)/\(l.any p=true↔∃ i:Nat,fnd (λk x=>if p x then some (k:Int) else none) l 0=some (i:Int))/\(l.any p=false↔fnd (λk x=>if p x then some (k:Int) else none) l 0=none):=by
 refine⟨?_,?_⟩
 ·rw[dC (λk x=>if p x then some (k:Int) else none) (λj x hj=>by
   simp only[hf x (Ae hj),bnd_s]
   by_cases hv:p x=true
   ·simp [hv,xAn]
   ·simp [hv,xAn])]
  cases fnd (λk x=>if p x then some (k:Int) else none) l 0<;>rfl
 ·have key:∀ (l:List α) (k:Nat),(l.any p=true/\∃ i:Nat,fnd (λk x=>if p x then some (k:Int) else none) l k=some (i:Int))∨(l.any p=false/\fnd (λk x=>if p x then some (k:Int) else none) l k=none):=by
   intro l
   induction l with
   | nil=>intro k;exact .inr ⟨rfl,rfl⟩
   | cons x l ih=>
    intro k
    unfold fnd
    by_cases hv:p x=true
    ·exact .inl ⟨by simp [hv],k,by simp [hv]⟩
    ·have qa:p x=false:=by simpa using hv
     rcases ih (k+1) with ⟨h1,h2⟩ | ⟨h1,h2⟩
     ·exact .inl ⟨by simp [h1],by simpa [qa] using h2⟩
     ·exact .inr ⟨by simp [qa,h1],by simpa [qa] using h2⟩
  rcases key l 0 with ⟨h1,h2⟩ | ⟨h1,h2⟩
  ·obtain⟨i,hi⟩:=h2
   exact⟨⟨λ_=>⟨i,hi⟩,λ_=>h1⟩,⟨λh=>(by rw[h1] at h;cases h),λh=>(by rw[hi] at h;cases h)⟩⟩
  ·exact⟨⟨λh=>(by rw[h1] at h;cases h),λ⟨i,h⟩=>(by rw[h2] at h;cases h)⟩,⟨λ_=>h2,λ_=>h1⟩⟩
theorem xLs {m:Nat} {u:A6} {o:Op} (hN:10<=N) (hu:TV T u) (ho:B9 T o m):∃ z:Int,aN N u o=some z/\(z == -1)=u.rels.all (gN N T o)/\cA N u o=some (u.rels.all (gN N T o)):=by
 have hs:=hu.s;obtain⟨k1,k2,k3⟩:=xGt u.rels (λr=>!gN N T o r) (λr=>xG (zY N u.size o r) λz=>some (!z)) (λr hr=>by rw[hs,(xHd hN hu.t (hu.r r hr) ho).1];rfl)
 obtain⟨j1,j2,j3⟩:=xGt u.rels (λr=>!gN N T o r) (λr=>eW N r (A6.mk u.size u.rels) (Op.mk o.arity o.table)) (λr hr=>by
  unfold eW
  rw[hs,(xHd hN hu.t (hu.r r hr) ho).2];rfl)
 have qa:u.rels.all (gN N T o) = !u.rels.any (λr=>!gN N T o r):=by rw[List.not_any_eq_all_not];simp
 have hf:aN N u o=some (match fnd (λk x=>if (!gN N T o x)=true then some (k:Int) else none) u.rels 0 with | some i=>i | none=>-1):=by
  unfold aN
  rw[<- k1]
  congr 2
  funext k x s
  show xG (zY N u.size o x) _=xG (xG (zY N u.size o x) _) _
  cases zY N u.size o x<;>rfl
 refine⟨_,hf,?_,?_⟩
 ·rw[qa]
  cases h:u.rels.any (λr=>!gN N T o r) with
  | true=>obtain⟨i,hi⟩:=k2.1 h;rw[hi];simp<;>omega
  | false=>rw[k3.1 h];rfl
 ·unfold cA mT kN
  rw[j1,bnd_s,bnd_s,qa]
  congr 1
  cases h:u.rels.any (λr=>!gN N T o r) with
  | true=>obtain⟨i,hi⟩:=j2.1 h;rw[hi];simp<;>omega
  | false=>rw[j3.1 h];rfl
theorem xVg {u:A6} {y:A7} (hu:TV T u) (h:∀ c∈y.cons,CW u vs.length c) (hN:1100<=N):∃ a,cD u y vs=some a/\(!(a == -1))=y.cons.any (λc=>!xDm u vs c):=by
 obtain⟨k1,k2,k3⟩:=xGt y.cons (λc=>!xDm u vs c) (λc=>xG (bR u c vs) λz=>some (!z)) (λc hc=>by rw[(xGp hu (h c hc) hN).1];rfl)
 have hf:cD u y vs=some (match fnd (λk x=>if (!xDm u vs x)=true then some (k:Int) else none) y.cons 0 with | some i=>i | none=>-1):=by
  unfold cD
  rw[<- k1]
  congr 2
  funext k x s
  show xG (bR u x vs) _=xG (xG (bR u x vs) _) _
  cases bR u x vs<;>rfl
 refine⟨_,hf,?_⟩
 ·cases h:y.cons.any (λc=>!xDm u vs c) with
  | true=>obtain⟨i,hi⟩:=k2.1 h;rw[hi];simp<;>omega
  | false=>rw[k3.1 h];rfl
def pO (T:Nat) (v:Int):Op:=⟨1,List.replicate T v⟩
theorem xUj {v:Int} (hv:0<=v/\v<(T:Int)):B9 T (pO T v) 1:=⟨rfl,by omega,by omega,by simp [pO],λa ha=>by rw[Ca ha];exact hv⟩
theorem xQw {ρ : Type} {v : Int} : ∀ (m N : Nat) (s : List Int), m < N->s.length + m<=1000->mL (σ := Int × (List Int)) (ρ := ρ) (λs =>match s with | (s1,s2)=>if (decide (0<s1)) then xG (ap s2 ([v])) λz1=>xG (ck (s1 - 1)) λz2=>some (.go (z2,z1)) else some (.brk (s1,s2))) N ((m:Int),s)=some (.nx (0,s++List.replicate m v))
 | 0,N,s,hN,hs=>by
  obtain⟨M,rfl⟩:∃ M,N=M+1:=⟨N - 1,by omega⟩;rw[bY (s':=(0,s)) (by rfl)]
  simp
 | m+1,N,s,hN,hs=>by
  obtain⟨M,rfl⟩:∃ M,N=M+1:=⟨N - 1,by omega⟩
  rw[eT (s':=((m:Int),s++[v])) (by
   have h0:(0:Int)<((m+1:Nat):Int):=by omega
   simp only[h0,decide_true,if_true,kX (l:=s) (m:=[v]) (by simp;omega),bnd_s,zJ (x:=((m+1:Nat):Int) - 1) (by omega) (by omega)]
   rw[show((m+1:Nat):Int) - 1=(m:Int) by omega])]
  rw[xQw m M (s++[v]) (by omega) (by simp;omega),Df]
  rfl
theorem xQm {v:Int} (hN:10<=N) (qa:1<=T/\T<=4) (hv:0<=v/\v<(T:Int)):bB N (T:Int) 1 v=some (pO T v,0):=by
 have hs:okS (T:Int)=true:=by simp [okS];omega
 have hp:qD N (T:Int) 1=some ((T ^ 1:Nat):Int):=(tD qa (n:=1) (by omega) hN).2
 unfold bB cY
 rw[xDs,bnd_s,hs];simp only[Bm,Af,if_false];rw[dV,bnd_s,zJ (x:=(T:Int) - 1) (by omega) (by omega)];simp only[bnd_s,dV];have e1:(decide ((1:Int)<=1) && decide ((1:Int)<=3))=true:=rfl
 have e2:(decide (0<=v) && decide (v<=(T:Int) - 1))=true:=by simp;omega
 simp only[e1,e2,Bm,Af,if_false,thn_nx];rw[hp,bnd_s,xQw (T ^ 1) N [] (by simp;omega) (by simp;omega)]
 simp [thn_nx,pO]
theorem xRd {v:Int} (hN:10<=N) (qa:1<=T/\T<=4):bQ N (T:Int) 1 v=some (pO T v):=by
 have hp:vA (T:Int) 1=some ((T ^ 1:Nat):Int):=(tD (N:=N) qa (n:=1) (by omega) hN).1
 unfold bQ tM
 rw[hp,bnd_s,Ad]
 rw[sE (n:=T ^ 1) (λ_=>v) (λi s hi hs=>by
  obtain⟨d,h1,_⟩:=xDj (T:=(T:Int)) (k:=(i:Int)) (m:=1) (N:=N) (by omega) (by omega) (by omega) (by simp at hi;omega) (by omega);have qc:qQ N (T:Int) 1 (i:Int)=some d:=h1
  simp only[qc,bnd_s,nX,kX (l:=s) (m:=[v]) (by simp at hi ⊢;omega)]) (T ^ 1) 0 [] rfl (by simp)]
 simp [thn_nx,pO,List.map_const']
theorem oEe {T:Nat} {x:A7} (hv:1<=x.vars/\x.vars<=10) (v:Int):qH [v] x.vars=some (List.replicate x.vars.toNat v):=by
 unfold qH
 rw[if_pos ⟨rfl,by omega,by omega⟩]
 rfl
theorem xJn {t:A6} {x:A7} {v:Int} (hN:1100<=N) (ht:nF t) (hi:sU t x=true) (hT:t.size=(T:Int)) (hv:0<=v/\v<(T:Int)):∃ r,bF N t x v=some r/\dD N t x v=some r/\(r.2=0->r.1.kind=0):=by
 obtain⟨iv,il,ic⟩:=xIw hi
 have qe:nC t=true:=by
  have:=hi;unfold sU at this;simp only[Ba] at this;exact this.1
 have hu:=xLu ht qe;rw[hT,Ad] at hu;have qf:=xUj (T:=T) hv;obtain⟨z,k1,k2,k3⟩:=xLs (N:=N) (by omega) hu qf;obtain⟨i1,i2⟩:=xFn (t:=t) (x:=x) ht;have qc:=hu.t;have i1':iS (A6.mk t.size t.rels) (A7.mk x.vars x.cons)=some (sU t x):=i1;have i2':kS (A6.mk t.size t.rels) (A7.mk x.vars x.cons)=some (sU t x):=i2;have k1':aN N (A6.mk t.size t.rels) (Op.mk (pO T v).arity (pO T v).table)=some z:=k1;have k3':cA N (A6.mk t.size t.rels) (Op.mk (pO T v).arity (pO T v).table)=some (t.rels.all (gN N T (pO T v))):=k3
 have qd:∀ c∈x.cons,CW t (List.replicate x.vars.toNat v).length c:=λc hc=>by
  have:=oJj hu (ic c hc);rw[Bv,show((x.vars.toNat:Nat):Int)=x.vars by omega];exact this
 obtain⟨a,f1,f3⟩:=xVg (N:=N) hu qd hN;obtain⟨_,b,_,f2,_,f4⟩:=xRy (N:=N) (u:=t) (vs:=List.replicate x.vars.toNat v) (y:=x) hu qd hN;have f1':cD (A6.mk t.size t.rels) (A7.mk x.vars x.cons) (List.replicate x.vars.toNat v)=some a:=f1;have f2':mM N (A6.mk t.size t.rels) (A7.mk x.vars x.cons) (List.replicate x.vars.toNat v)=some b:=f2
 have hl:bF N t x v=some (if t.rels.all (gN N T (pO T v)) then (if x.cons.any (λc=>!xDm t (List.replicate x.vars.toNat v) c) then (B0.mk 0 [] [] [] [],6) else (B0.mk 0 (List.replicate x.vars.toNat v) [] [] [],0)) else (B0.mk 0 [] [] [] [],4)):=by
  unfold bF
  rw[i1',bnd_s,hi];simp only[Bm,Af,if_false];rw[hT,zJ (x:=(T:Int) - 1) (by omega) (by omega),bnd_s,dV,bnd_s]
  have e2:(decide (0<=v) && decide (v<=(T:Int) - 1))=true:=by simp;omega
  rw[e2,xQm (by omega) qc hv,bnd_s];rw[<- hT,k1',bnd_s]
  have hz:(z != -1) = !t.rels.all (gN N T (pO T v)):=by rw[<- k2];rfl
  rw[hz]
  by_cases hk:t.rels.all (gN N T (pO T v))=true
  ·rw[hk]
   simp only[Bm,Af,if_false,if_true];rw[sE (n:=x.vars.toNat) (λ_=>v) (λi s hi hs=>by rw[kX (l:=s) (m:=[v]) (by simp;omega),bnd_s]) x.vars.toNat 0 [] rfl (by omega)];rw[thn_nx,Bp,List.map_const',List.length_range',f1',bnd_s]
   have ha:(a != -1)=x.cons.any (λc=>!xDm t (List.replicate x.vars.toNat v) c):=by rw[<- f3];rfl
   rw[ha]
   cases x.cons.any (λc=>!xDm t (List.replicate x.vars.toNat v) c)<;>rfl
  ·have qa:t.rels.all (gN N T (pO T v))=false:=by simpa using hk
   rw[qa];rfl
 refine⟨_,hl,?_,?_⟩
 ·unfold dD
  rw[i2',bnd_s,hi];simp only[Bm,Af,if_false];rw[hT,xNr (by omega),bnd_s]
  have e2:okV (T:Int) v=true:=by simp [okV];omega
  rw[e2,xRd (N:=N) (by omega) qc,bnd_s,<- hT,k3',bnd_s]
  by_cases hk:t.rels.all (gN N T (pO T v))=true
  ·rw[hk]
   simp only[Bm,Af,if_false,if_true];rw[oEe (T:=T) iv,bnd_s,f2',bnd_s,f4]
   cases x.cons.any (λc=>!xDm t (List.replicate x.vars.toNat v) c)<;>rfl
  ·have qa:t.rels.all (gN N T (pO T v))=false:=by simpa using hk
   rw[qa];rfl
 ·intro _
  split
  ·split<;>rfl
  ·rfl
end
section
variable {T:Nat} {P:Prop}
theorem xLm {α:Type} (x:Option α):xG x (λz=>Option.some z)=x:=by cases x<;>rfl
def eX (o:Option Bool) (P:Prop):Prop:=(P/\o=some true)∨(¬ P/\o=some false)
theorem eX.eq {a b:Option Bool} (h:eX a P) (h':eX b P):a=b:=by
 rcases h with ⟨p,rfl⟩ | ⟨p,rfl⟩<;>rcases h' with ⟨q,rfl⟩ | ⟨q,rfl⟩<;>first | rfl | exact absurd p q | exact absurd q p
theorem eX.of {a:Option Bool} {Q:Prop} (h:eX a P) (e:P↔Q):eX a Q:=by rwa [eX,<- e]
theorem eX.some {a:Option Bool} (h:eX a P):∃ b,a=Option.some b/\(b=true↔P):=by
 rcases h with ⟨p,rfl⟩ | ⟨p,rfl⟩
 ·exact⟨true,rfl,by simp [p]⟩
 ·exact⟨false,rfl,by simp [p]⟩
theorem eX.beq {a b:Int}:eX (Option.some (a==b)) (a=b):=by
 by_cases h:a=b
 ·exact .inl ⟨h,by simp [h]⟩
 ·exact .inr ⟨h,by simp [h]⟩
theorem xQy {ρ:Type} {r:ρ} {b:Nat->Unit->Option (Ctl Unit ρ)} (p:Nat->Prop):∀ {n k:Nat},(∀ j,k<=j->j<k+n->(p j/\b j ()=some (.go ()))∨(¬ p j/\b j ()=some (.ret r)))->((∀ j,k<=j->j<k+n->p j)/\qM b n k ()=some (.nx ()))∨((¬ ∀ j,k<=j->j<k+n->p j)/\qM b n k ()=some (.ret r))
 | 0,k,_=>.inl ⟨λj h1 h2=>by omega,rfl⟩
 | n+1,k,h=>by
  rcases h k (Az _) (by omega) with ⟨h1,h2⟩ | ⟨h1,h2⟩
  ·rw[zM h2]
   rcases xQy p (n:=n) (k:=k+1) (λj hj qa=>h j (by omega) (by omega)) with ⟨h3,h4⟩ | ⟨h3,h4⟩
   ·refine .inl ⟨λj hj qa=>?_,h4⟩
    by_cases e:j=k
    ·exact e ▸ h1
    ·exact h3 j (by omega) (by omega)
   ·exact .inr ⟨λha=>h3 λj hj qa=>ha j (by omega) (by omega),h4⟩
  ·exact .inr ⟨λha=>h1 (ha k (Az _) (by omega)),mR h2⟩
theorem xBl {ρ:Type} {r:ρ} {n:Nat} {b:Nat->Unit->Option (Ctl Unit ρ)} (p:Nat->Prop) (h:∀ j,j<n->(p j/\b j ()=some (.go ()))∨(¬ p j/\b j ()=some (.ret r))) : ((∀ j,j<n->p j)/\qM b n 0 ()=some (.nx ()))∨((¬ ∀ j,j<n->p j)/\qM b n 0 ()=some (.ret r)):=by
 rcases xQy (k:=0) (n:=n) p (λj _ hj=>h j (by omega)) with ⟨h1,h2⟩ | ⟨h1,h2⟩
 ·exact .inl ⟨λj hj=>h1 j (Dc _) (by omega),h2⟩
 ·exact .inr ⟨λha=>h1 λj _ hj=>ha j (by omega),h2⟩
theorem xQs {α ρ:Type} {r:ρ} {b:Nat->α->Unit->Option (Ctl Unit ρ)} (p:Nat->Prop):∀ {l:List α} {k:Nat},(∀ j x,l[j]?=some x->(p (k+j)/\b (k+j) x ()=some (.go ()))∨(¬ p (k+j)/\b (k+j) x ()=some (.ret r)))->
 ((∀ j,j<l.length->p (k+j))/\oM b l k ()=some (.nx ()))∨((¬ ∀ j,j<l.length->p (k+j))/\oM b l k ()=some (.ret r))
 | [],k,_=>.inl ⟨λj h1=>absurd h1 (Nat.not_lt_zero _),rfl⟩
 | x::l,k,h=>by
  have h0:=h 0 x rfl;rw[Cb] at h0
  rcases h0 with ⟨h1,h2⟩ | ⟨h1,h2⟩
  ·rw[vQ h2]
   rcases xQs p (l:=l) (k:=k+1) (λj y hy=>by rw[show k+1+j=k+(j+1) by omega];exact h (j+1) y hy) with ⟨h3,h4⟩ | ⟨h3,h4⟩
   ·refine .inl ⟨λj hj=>?_,h4⟩
    rcases j with _ | j
    ·exact h1
    ·have:=h3 j (by simpa using hj);rwa [show k+1+j=k+(j+1) by omega] at this
   ·exact .inr ⟨λha=>h3 λj hj=>by have:=ha (j+1) (by simpa using hj);rwa [show k+(j+1)=k+1+j by omega] at this,h4⟩
  ·exact .inr ⟨λha=>h1 (ha 0 (by simp)),fP h2⟩
theorem yA {x:Option (Out Unit Bool)} (h:(P/\x=some (.nx ()))∨(¬ P/\x=some (.ret false))):eX (oZ x λ_=>some true) P:=by
 rcases h with ⟨p,rfl⟩ | ⟨p,rfl⟩
 ·exact .inl ⟨p,rfl⟩
 ·exact .inr ⟨p,rfl⟩
def dig (T m k:Nat):List Int:=(List.range' 0 m).map λi=>((k / T ^ (m - 1 - i) % T:Nat):Int)
set_option synthInstance.maxHeartbeats 400000 in
set_option synthInstance.maxSize 1000 in
theorem oIp:∀ T:Nat,T<5->∀ m:Nat,m<4->∀ k:Nat,k<T ^ m->1<=T->1<=m->qQ 10 (T:Int) (m:Int) (k:Int)=some (dig T m k)/\(dig T m k).length=m/\((dig T m k).all λa=>decide (0<=a) && decide (a<(T:Int)))=true/\zV T (dig T m k)=(k:Int):=by decide +kernel
theorem uG {m k N:Nat} (qa:1<=T/\T<=4) (hm:1<=m/\m<=3) (hk:k<T ^ m) (hN:10<=N):qQ N (T:Int) (m:Int) (k:Int)=some (dig T m k)/\(dig T m k).length=m/\bK T (dig T m k)/\zV T (dig T m k)=(k:Int):=by
 have h:=oIp T (by omega) m (by omega) k hk qa.1 hm.1;exact⟨xAx h.1 hN,h.2.1,λa ha=>by have:=Ci.1 h.2.2.1 a ha;simpa using this,h.2.2.2⟩
theorem rV:vZ=qQ:=rfl
theorem oJu:∀ T:Nat,T<5->∀ a:Nat,a<T->a<T ^ 1/\dig T 1 a=[(a:Int)]:=by decide +kernel
theorem oJb:∀ T:Nat,T<5->∀ a:Nat,a<T->∀ b:Nat,b<T->a*T+b<T ^ 2/\dig T 2 (a*T+b)=[(a:Int),(b:Int)]:=by decide +kernel
theorem oKd:∀ T:Nat,T<5->∀ a:Nat,a<T->∀ b:Nat,b<T->∀ c:Nat,c<T->(a*T+b)*T+c<T ^ 3/\dig T 3 ((a*T+b)*T+c)=[(a:Int),(b:Int),(c:Int)]:=by decide +kernel
theorem oLf:∀ T:Nat,T<5->∀ k:Nat,k<T ^ 1->∃ a:Nat,a<T/\dig T 1 k=[(a:Int)]:=by decide +kernel
theorem oEr:∀ T:Nat,T<5->∀ k:Nat,k<T ^ 2->∃ a:Nat,a<T/\∃ b:Nat,b<T/\dig T 2 k=[(a:Int),(b:Int)]:=by decide +kernel
theorem oHy:∀ T:Nat,T<5->∀ k:Nat,k<T ^ 3->∃ a:Nat,a<T/\∃ b:Nat,b<T/\∃ c:Nat,c<T/\dig T 3 k=[(a:Int),(b:Int),(c:Int)]:=by decide +kernel
theorem all1 (hT4:T<=4) (p:List Int->Prop):(∀ k,k<T ^ 1->p (dig T 1 k))↔∀ a:Nat,a<T->p [(a:Int)]:=by
 refine⟨λh a ha=>?_,λh k hk=>?_⟩
 ·have:=oJu T (by omega) a ha;rw[<- this.2];exact h _ this.1
 ·obtain⟨a,ha,e⟩:=oLf T (by omega) k hk;rw[e];exact h a ha
theorem oGw (hT4:T<=4) (p:List Int->Prop):(∀ k,k<T ^ 2->p (dig T 2 k))↔∀ a:Nat,a<T->∀ b:Nat,b<T->p [(a:Int),(b:Int)]:=by
 refine⟨λh a ha b hb=>?_,λh k hk=>?_⟩
 ·have:=oJb T (by omega) a ha b hb;rw[<- this.2];exact h _ this.1
 ·obtain⟨a,ha,b,hb,e⟩:=oEr T (by omega) k hk;rw[e];exact h a ha b hb
theorem oKn (hT4:T<=4) (p:List Int->Prop):(∀ k,k<T ^ 3->p (dig T 3 k))↔∀ a:Nat,a<T->∀ b:Nat,b<T->∀ c:Nat,c<T->p [(a:Int),(b:Int),(c:Int)]:=by
 refine⟨λh a ha b hb c hc=>?_,λh k hk=>?_⟩
 ·have:=oKd T (by omega) a ha b hb c hc;rw[<- this.2];exact h _ this.1
 ·obtain⟨a,ha,b,hb,c,hc,e⟩:=oHy T (by omega) k hk;rw[e];exact h a ha b hb c hc
def V (T:Nat) (o:Op) (l:List Int):Int:=o.table.getD (zV T l).toNat 0
theorem fE (qc:1<=T/\T<=4) {o:Op} {m:Nat} (ho:B9 T o m) {l:List Int} (hb:bK T l) (hl:l.length=m):aM o (T:Int) l=some (V T o l)/\qV (T:Int) o l=some (V T o l)/\0<=V T o l/\V T o l<(T:Int):=by
 obtain⟨c1,c2,c3⟩:=sZ qc hb (by have:=ho.m3;omega);rw[hl] at c3
 have qa:(zV T l).toNat<o.table.length:=by rw[ho.tl];omega
 have hx:o.table[(zV T l).toNat]?=some (o.table[(zV T l).toNat]'qa):=Aa qa;have hv:V T o l=o.table[(zV T l).toNat]'qa:=kK hx
 have h1:qV (T:Int) o l=some (V T o l):=by
  unfold qV
  rw[c1,bnd_s,lK c2 hx,bnd_s,hv]
 refine⟨h1,h1,?_⟩;rw[hv];exact ho.tb _ (Bn qa)
theorem pY {m N:Nat} (qa:1<=T/\T<=4) (hm:1<=m/\m<=3) (hN:10<=N) {f:List Int->Option Bool} (p:List Int->Prop) (hf:∀ k,k<T ^ m->eX (f (dig T m k)) (p (dig T m k))):eX (aB N (T:Int) (m:Int) f) (∀ k,k<T ^ m->p (dig T m k)):=by
 unfold aB
 rw[(tD qa (by omega) hN).1,bnd_s,Ad];refine yA (xBl (λk=>p (dig T m k)) λk hk=>?_);rw[(uG qa hm hk hN).1,bnd_s]
 rcases hf k hk with ⟨h1,h2⟩ | ⟨h1,h2⟩
 ·exact .inl ⟨h1,by rw[h2];rfl⟩
 ·exact .inr ⟨h1,by rw[h2];rfl⟩
theorem xHa {a:Nat} {l:List Int} (ha:a<T) (h:bK T l):bK T ((a:Int)::l):=by
 intro x hx
 rcases Av.1 hx with rfl | hx
 ·omega
 ·exact h x hx
theorem xZs:bK T []:=λ_ h=>by cases h
def oIa (T m:Nat) (o:Op):Prop:=∀ v:Nat,v<T->V T o (List.replicate m (v:Int))=(v:Int)
theorem xRn {m v:Nat} (hv:v<T):bK T (List.replicate m (v:Int)):=λx hx=>by have:=Ca hx;omega
theorem oJo {m N:Nat} (qa:1<=T/\T<=4) {o:Op} (ho:B9 T o m) (hN:11<=N):eX (zN N (T:Int) o 3) (oIa T m o):=by
 obtain⟨M,rfl⟩:∃ M,N=M+1:=⟨N - 1,by omega⟩;have e:zN (M+1) (T:Int) o 3=xG (aB M (T:Int) 1 (λa0=>nN a0 o (T:Int))) λz=>some z:=rfl;rw[e,xLm];refine(pY (m:=1) qa (by omega) (by omega) (λl=>V T o (List.replicate m (l.getD 0 0))=l.getD 0 0) λk hk=>?_).of (all1 qa.2 (λl=>V T o (List.replicate m (l.getD 0 0))=l.getD 0 0));obtain⟨a,ha,e⟩:=oLf T (by omega) k hk;rw[e]
 have hr:qH [(a:Int)] o.arity=some (List.replicate m (a:Int)):=by
  unfold qH
  rw[ho.ar,if_pos ⟨rfl,by omega,by have:=ho.m3;omega⟩]
  rfl
 unfold nN
 rw[show ix [(a:Int)] 0=some (a:Int) from rfl,bnd_s,hr,bnd_s,(fE qa ho (xRn ha) (by simp)).1,bnd_s];exact eX.beq
theorem xVn {m:Nat} (qa:1<=T/\T<=4) {o:Op} (ho:B9 T o m):eX (bD (T:Int) o) (oIa T m o):=by
 unfold bD
 rw[Ad];refine yA (xBl (λv=>V T o (List.replicate m (v:Int))=(v:Int)) λv hv=>?_)
 have hl:∀ n k (s:List Int),s.length+n<=1000->qM (σ:=List Int) (ρ:=Ctl (Unit) Bool) (λk1 s1=>xG (ap s1 ([(v:Int)])) λz1=>some (.go z1)) n k s=some (.nx (s++List.replicate n (v:Int))):=by
  intro n
  induction n with
  | zero=>intro k s _;simp [qM]
  | succ n ih=>
   intro k s hs;rw[zM (s':=s++[(v:Int)]) (by rw[kX (by simp;omega),bnd_s]),ih (k+1) _ (by simp;omega),Df]
   simp [De]
 have qc:=hl o.arity.toNat 0 [] (by rw[ho.ar];have:=ho.m3;simp;omega)
 have e:o.arity.toNat=m:=by rw[ho.ar];simp
 simp only[qc,thn_nx,Bp];rw[e,(fE qa ho (xRn hv) (by simp)).2.1,bnd_s]
 by_cases h:V T o (List.replicate m (v:Int))=(v:Int)
 ·exact .inl ⟨h,by simp [h]⟩
 ·exact .inr ⟨h,by simp [h]⟩
end
section
variable {T:Nat} {N:Nat}
theorem sB {a b:Nat} (ha:a<T) (hb:b<T):bK T [(a:Int),(b:Int)]:=xHa ha (xHa hb xZs)
theorem xOd {a b c:Nat} (ha:a<T) (hb:b<T) (hc:c<T):bK T [(a:Int),(b:Int),(c:Int)]:=xHa ha (sB hb hc)
theorem oJt (a b:Int):zS [a,b]=some (if a<=b then [a,b] else [b,a]):=by
 unfold zS
 rw[if_pos (by simp)]
 by_cases h:a<=b
 ·simp [List.mergeSort,List.merge,h]
 ·simp [List.mergeSort,List.merge,h]
def oDs (T:Nat) (o:Op):Prop:=∀ a:Nat,a<T->∀ b:Nat,b<T->V T o [(a:Int),(b:Int)]=V T o [(b:Int),(a:Int)]
theorem xWt (qa:1<=T/\T<=4) {o:Op} (ho:B9 T o 2) (hN:11<=N):eX (cQ N (T:Int) o) (oDs T o):=by
 unfold cQ
 rw[xLm,ho.ar];refine(pY (m:=2) qa (by omega) (by omega) (λl=>V T o l=V T o (if l.getD 0 0<=l.getD 1 0 then [l.getD 0 0,l.getD 1 0] else [l.getD 1 0,l.getD 0 0])) λk hk=>?_).of ((oGw qa.2 (λl=>V T o l=V T o (if l.getD 0 0<=l.getD 1 0 then [l.getD 0 0,l.getD 1 0] else [l.getD 1 0,l.getD 0 0]))).trans ?_)
 ·obtain⟨a,ha,b,hb,e⟩:=oEr T (by omega) k hk
  rw[e]
  have hs:aM o (T:Int) (if (a:Int)<=b then [(a:Int),(b:Int)] else [(b:Int),(a:Int)])=some (V T o (if (a:Int)<=b then [(a:Int),(b:Int)] else [(b:Int),(a:Int)])):=by
   split
   ·exact(fE qa ho (sB ha hb) rfl).1
   ·exact(fE qa ho (sB hb ha) rfl).1
  unfold iL
  rw[show oH [(a:Int),(b:Int)]=some [(a:Int),(b:Int)] by unfold oH;rw[kX (by simp),bnd_s];rfl,bnd_s,oJt,bnd_s];rw[show Op.mk ((2:Nat):Int) o.table=o by rw[<- ho.ar],(fE qa ho (sB ha hb) rfl).1,bnd_s,hs,bnd_s];exact eX.beq
 ·refine⟨λh a ha b hb=>?_,λh a ha b hb=>?_⟩
  ·rcases Nat.le_total a b with qc | qc
   ·have:=h b hb a ha
    by_cases e:a=b
    ·rw[e]
    ·simp only[Dd,Dl] at this
     rw[if_neg (by omega)] at this;exact this.symm
   ·have:=h a ha b hb
    by_cases e:a=b
    ·rw[e]
    ·simp only[Dd,Dl] at this
     rw[if_neg (by omega)] at this;exact this
  ·simp only[Dd,Dl]
   split
   ·rfl
   ·exact h a ha b hb
theorem xVq (qc:1<=T/\T<=4) {o:Op} (ho:B9 T o 2) (hN:11<=N):eX (aT N (T:Int) o) (oDs T o):=by
 unfold aT
 rw[ho.ar]
 have key:((∀ j,j<o.table.length->V T o (dig T 2 j)=V T o [(dig T 2 j).getD 1 0,(dig T 2 j).getD 0 0]))↔oDs T o:=by
  rw[ho.tl];exact oGw qc.2 (λl=>V T o l=V T o [l.getD 1 0,l.getD 0 0])
 refine eX.of (yA ?_) key
 have:=xQs (ρ:=Bool) (r:=false) (l:=o.table) (k:=0) (λj=>V T o (dig T 2 j)=V T o [(dig T 2 j).getD 1 0,(dig T 2 j).getD 0 0]) (b:=λ(k1:Nat) (x1:Int) (s:Unit)=>match s with | _=>xG (vZ N (T:Int) ((2:Nat):Int) (k1:Int)) λz1=>oZ (σ:=Int) (mL (λs1=>xG (ck (s1+1)) λz2=>if (decide (z2<((2:Nat):Int))) then xG (zO z1) λz3=>xG (ix z1 z2) λz4=>xG (ix z3 s1) λz5=>xG (ix z1 s1) λz6=>xG (ix (z3.set (s1).toNat z4) z2) λz7=>xG (qV (T:Int) o ((z3.set (s1).toNat z4).set (z2).toNat z6)) λz8=>if (z8 != x1) then some (.ret (.ret false)) else some (.go z2) else some (.brk s1)) N 0) λs2=>some (.go ())) (λj x hx=>by
  rw[Bj];have hj:=(Ac.1 hx).1;rw[ho.tl] at hj;obtain⟨a,ha,b,hb,e⟩:=oEr T (by omega) j hj;have hd:=uG (N:=N) qc (m:=2) (by omega) hj (by omega)
  have hv:V T o (dig T 2 j)=x:=by unfold V;rw[hd.2.2.2,Ad];exact kK hx
  rw[hv];rw[rV,hd.1];simp only[bnd_s];rw[e];obtain⟨M,rfl⟩:∃ M,N=M+1+1:=⟨N - 2,by omega⟩
  have qd:zO [(a:Int),(b:Int)]=some [(a:Int),(b:Int)]:=by unfold zO;rw[kX (by simp),bnd_s];rfl
  simp only[Dd,Dl];have qa:=(fE qc ho (sB hb ha) rfl).2.1
  by_cases h:V T o [(b:Int),(a:Int)]=x
  ·refine .inl ⟨h.symm,?_⟩
   rw[eT (s':=1) (by
    simp only[show ck ((0:Int)+1)=some 1 from rfl,bnd_s,qd,show ix [(a:Int),(b:Int)] 1=some (b:Int) from rfl,show ix [(a:Int),(b:Int)] 0=some (a:Int) from rfl];rw[if_pos (by decide)];simp only[show ix (List.set [(a:Int),(b:Int)] (0:Int).toNat (b:Int)) 1=some (b:Int) from rfl,bnd_s,show(List.set [(a:Int),(b:Int)] (0:Int).toNat (b:Int)).set (1:Int).toNat (a:Int)=[(b:Int),(a:Int)] from rfl,qa]
    rw[h];simp)]
   rw[bY (by
    simp only[show ck ((1:Int)+1)=some 2 from rfl,bnd_s]
    rw[if_neg (by decide)])]
   rfl
  ·refine .inr ⟨λh'=>h h'.symm,?_⟩
   rw[wP (r:=Ctl.ret false) (by
    simp only[show ck ((0:Int)+1)=some 1 from rfl,bnd_s,qd,show ix [(a:Int),(b:Int)] 1=some (b:Int) from rfl,show ix [(a:Int),(b:Int)] 0=some (a:Int) from rfl];rw[if_pos (by decide)];simp only[show ix (List.set [(a:Int),(b:Int)] (0:Int).toNat (b:Int)) 1=some (b:Int) from rfl,bnd_s,show(List.set [(a:Int),(b:Int)] (0:Int).toNat (b:Int)).set (1:Int).toNat (a:Int)=[(b:Int),(a:Int)] from rfl,qa]
    rw[if_pos (by simp [h])])]
   rfl)
 simp only[Bj] at this;exact this
def xYp (T:Nat) (o:Op):Prop:=∀ a:Nat,a<T->∀ b:Nat,b<T->∀ c:Nat,c<T->V T o [V T o [(a:Int),(b:Int)],(c:Int)]=V T o [(a:Int),V T o [(b:Int),(c:Int)]]
theorem xJc {m:Nat} (qa:1<=T/\T<=4) {o:Op} (ho:B9 T o m) {l:List Int} (hb:bK T l) (hl:l.length=m):∃ v:Nat,v<T/\V T o l=(v:Int):=by
 obtain⟨_,_,h1,h2⟩:=fE qa ho hb hl;exact⟨(V T o l).toNat,by omega,by omega⟩
theorem xTn (qa:1<=T/\T<=4) {o:Op} (ho:B9 T o 2) (hN:11<=N):eX (aB N (T:Int) 3 (λa0=>lH a0 o (T:Int))) (xYp T o):=by
 refine(pY (m:=3) qa (by omega) (by omega) (λl=>V T o [V T o [l.getD 0 0,l.getD 1 0],l.getD 2 0]=V T o [l.getD 0 0,V T o [l.getD 1 0,l.getD 2 0]]) λk hk=>?_).of (oKn qa.2 (λl=>V T o [V T o [l.getD 0 0,l.getD 1 0],l.getD 2 0]=V T o [l.getD 0 0,V T o [l.getD 1 0,l.getD 2 0]]));obtain⟨a,ha,b,hb,c,hc,e⟩:=oHy T (by omega) k hk;obtain⟨v,hv,ev⟩:=xJc qa ho (sB ha hb) rfl;obtain⟨w,hw,ew⟩:=xJc qa ho (sB hb hc) rfl;rw[e]
 unfold lH
 simp only[show ix [(a:Int),(b:Int),(c:Int)] 0=some (a:Int) from rfl,show ix [(a:Int),(b:Int),(c:Int)] 1=some (b:Int) from rfl,show ix [(a:Int),(b:Int),(c:Int)] 2=some (c:Int) from rfl,bnd_s,(fE qa ho (sB ha hb) rfl).1,(fE qa ho (sB hb hc) rfl).1,Dd,Dl,ev,ew,(fE qa ho (sB hv hc) rfl).1,(fE qa ho (sB ha hw) rfl).1];exact eX.beq
theorem xSk (qa:1<=T/\T<=4) {o:Op} (ho:B9 T o 2) (hN:11<=N):eX (bZ N (T:Int) o) (xYp T o):=by
 unfold bZ
 rw[show((3:Int))=((3:Nat):Int) from rfl,(tD qa (by omega) (by omega)).2,bnd_s,Ad];refine eX.of (yA (xBl (λk=>(λl:List Int=>V T o [V T o [l.getD 0 0,l.getD 1 0],l.getD 2 0]=V T o [l.getD 0 0,V T o [l.getD 1 0,l.getD 2 0]]) (dig T 3 k)) λk hk=>?_)) (oKn qa.2 (λl=>V T o [V T o [l.getD 0 0,l.getD 1 0],l.getD 2 0]=V T o [l.getD 0 0,V T o [l.getD 1 0,l.getD 2 0]]));obtain⟨a,ha,b,hb,c,hc,e⟩:=oHy T (by omega) k hk;obtain⟨v,hv,ev⟩:=xJc qa ho (sB ha hb) rfl;obtain⟨w,hw,ew⟩:=xJc qa ho (sB hb hc) rfl;have hd:=uG (N:=N) qa (m:=3) (by omega) hk (by omega);rw[rV,hd.1,e];simp only[bnd_s,show sl [(a:Int),(b:Int),(c:Int)] 0 2=some [(a:Int),(b:Int)] from rfl,show sl [(a:Int),(b:Int),(c:Int)] 1 (([(a:Int),(b:Int),(c:Int)].length:Nat):Int)=some [(b:Int),(c:Int)] from rfl,show ix [(a:Int),(b:Int),(c:Int)] 0=some (a:Int) from rfl,show ix [(a:Int),(b:Int),(c:Int)] 2=some (c:Int) from rfl,(fE qa ho (sB ha hb) rfl).2.1,(fE qa ho (sB hb hc) rfl).2.1,Dd,Dl,ev,ew,(fE qa ho (sB hv hc) rfl).2.1,(fE qa ho (sB ha hw) rfl).2.1]
 by_cases h:V T o [(v:Int),(c:Int)]=V T o [(a:Int),(w:Int)]
 ·exact .inl ⟨h,by simp [h]⟩
 ·exact .inr ⟨h,by simp [h]⟩
end
section
variable {N:Nat} {T:Nat}
def K6 (T m:Nat) (o:Op):Prop:=m=2/\oDs T o/\oIa T m o/\xYp T o
theorem xDy {m:Nat} (qa:1<=T/\T<=4) {o:Op} (ho:B9 T o m) (hN:13<=N):eX (zN N (T:Int) o 6) (K6 T m o):=by
  obtain⟨M,rfl⟩:∃ M,N=M+1+1:=⟨N - 2,by omega⟩
  have e : zN (M + 1 + 1) (T : Int) o 6 = oZ (σ := Bool) (xG (zN (M+1) (T:Int) o 3) λz1=>if z1 then  xG (zN (M+1) (T:Int) o 5) λz2=>if z2 then  xG (aB (M+1) (T:Int) 3 (λa0=>lH a0 o (T:Int))) λz64=>some (.nx z64) else  some (.nx false) else  some (.nx false)) λs3=>
        some s3:=rfl
  have e5 : zN (M + 1) (T : Int) o 5 = oZ (σ := Bool) (if (o.arity==2) then  xG (cQ M (T:Int) o) λz3=>some (.nx z3) else  some (.nx false)) λs4=>
       some s4:=rfl
  rw[e]
  rcases oJo (N:=M+1) qa ho (by omega) with ⟨i1,i2⟩ | ⟨i1,i2⟩
  · rw[i2,bnd_s,if_pos rfl,e5]
    by_cases hm:m=2
    · subst hm
      rw[if_pos (by rw[ho.ar];rfl)]
      rcases xWt (N:=M) qa ho (by omega) with ⟨s1,s2⟩ | ⟨s1,s2⟩
      · rw[s2]
        simp only[bnd_s,thn_nx,if_true]
        rcases xTn (N:=M+1) qa ho (by omega) with ⟨a1,a2⟩ | ⟨a1,a2⟩
        · rw[a2];exact .inl ⟨⟨rfl,s1,i1,a1⟩,rfl⟩
        · rw[a2];exact .inr ⟨λh=>a1 h.2.2.2,rfl⟩
      · rw[s2];exact .inr ⟨λh=>s1 h.2.1,rfl⟩
    · rw[if_neg (by rw[ho.ar];simp;omega)]
      exact .inr ⟨λh=>hm h.1,rfl⟩
  · rw[i2];exact .inr ⟨λh=>i1 h.2.2.1,rfl⟩
theorem xLo {m:Nat} (qa:1<=T/\T<=4) {o:Op} (ho:B9 T o m) (hN:13<=N):eX (aZ N (T:Int) o 6) (K6 T m o):=by
  have e : aZ N (T : Int) o 6 = oZ (σ := Bool) (if (o.arity==2) then  xG (aT N (T:Int) o) λz1=>if z1 then  xG (bD (T:Int) o) λz64=>if z64 then  xG (bZ N (T:Int) o) λz2=>some (.nx z2) else  some (.nx false) else  some (.nx false) else  some (.nx false)) λs3=>
       some s3:=rfl
  rw[e]
  by_cases hm:m=2
  · subst hm
    rw[if_pos (by rw[ho.ar];rfl)]
    rcases xVq (N:=N) qa ho (by omega) with ⟨s1,s2⟩ | ⟨s1,s2⟩
    · rw[s2,bnd_s,if_pos rfl]
      rcases xVn qa ho with ⟨i1,i2⟩ | ⟨i1,i2⟩
      · rw[i2,bnd_s,if_pos rfl]
        rcases xSk (N:=N) qa ho (by omega) with ⟨a1,a2⟩ | ⟨a1,a2⟩
        · rw[a2];exact .inl ⟨⟨rfl,s1,i1,a1⟩,rfl⟩
        · rw[a2];exact .inr ⟨λh=>a1 h.2.2.2,rfl⟩
      · rw[i2];exact .inr ⟨λh=>i1 h.2.2.1,rfl⟩
    · rw[s2];exact .inr ⟨λh=>s1 h.2.1,rfl⟩
  · rw[if_neg (by rw[ho.ar];simp;omega)]
    exact .inr ⟨λh=>hm h.1,rfl⟩
def Maj (T:Nat) (o:Op):Prop:=∀ a:Nat,a<T->∀ b:Nat,b<T->V T o [(a:Int),(a:Int),(b:Int)]=(a:Int)/\V T o [(b:Int),(a:Int),(a:Int)]=(a:Int)/\V T o [(a:Int),(b:Int),(a:Int)]=(a:Int)
def K7 (T m:Nat) (o:Op):Prop:=m=3/\Maj T o
theorem xEg {m:Nat} (qa:1<=T/\T<=4) {o:Op} (ho:B9 T o m) (hN:13<=N):eX (zN N (T:Int) o 7) (K7 T m o):=by
 obtain⟨M,rfl⟩:∃ M,N=M+1:=⟨N - 1,by omega⟩;have e:zN (M+1) (T:Int) o 7=xG (mG M (T:Int) o) λz1=>some z1:=rfl;rw[e,xLm]
 unfold mG
 by_cases hm:m=3
 ·subst hm
  rw[if_pos (by rw[ho.ar];rfl)]
  have:=(pY (m:=2) (N:=M) (f:=λa0=>cR a0 o (T:Int)) qa (by omega) (by omega) (λl=>V T o [l.getD 0 0,l.getD 0 0,l.getD 1 0]=l.getD 0 0/\V T o [l.getD 1 0,l.getD 0 0,l.getD 0 0]=l.getD 0 0/\V T o [l.getD 0 0,l.getD 1 0,l.getD 0 0]=l.getD 0 0) λk hk=>by
   obtain⟨a,ha,b,hb,e⟩:=oEr T (by omega) k hk;rw[e]
   unfold cR rR
   simp only[show ix [(a:Int),(b:Int)] 0=some (a:Int) from rfl,show ix [(a:Int),(b:Int)] 1=some (b:Int) from rfl,bnd_s,(fE qa ho (xOd ha ha hb) rfl).1,(fE qa ho (xOd ha hb ha) rfl).1,(fE qa ho (xOd hb ha ha) rfl).1,Dd,Dl]
   have h0:decide ((0:Int)<=(a:Int))=true:=by simp
   rw[show(3:Int).toNat=3 from rfl]
   by_cases g1:V T o [(a:Int),(a:Int),(b:Int)]=(a:Int)
   ·by_cases g2:V T o [(a:Int),(b:Int),(a:Int)]=(a:Int)
    ·by_cases g3:V T o [(b:Int),(a:Int),(a:Int)]=(a:Int)
     ·refine .inl ⟨⟨g1,g3,g2⟩,?_⟩
      rw[g1,g2,g3]
      simp [qM,ix,h0,xG,oZ]
     ·refine .inr ⟨λh=>g3 h.2.1,?_⟩
      rw[g1,g2]
      simp [qM,ix,h0,xG,oZ,g3]
    ·refine .inr ⟨λh=>g2 h.2.2,?_⟩
     rw[g1]
     simp [qM,ix,h0,xG,oZ,g2]
   ·refine .inr ⟨λh=>g1 h.1,?_⟩
    simp [qM,ix,h0,xG,oZ,g1]).of (oGw qa.2 (λl=>V T o [l.getD 0 0,l.getD 0 0,l.getD 1 0]=l.getD 0 0/\V T o [l.getD 1 0,l.getD 0 0,l.getD 0 0]=l.getD 0 0/\V T o [l.getD 0 0,l.getD 1 0,l.getD 0 0]=l.getD 0 0))
  rcases this with ⟨h1,h2⟩ | ⟨h1,h2⟩
  ·refine .inl ⟨⟨rfl,h1⟩,?_⟩
   rw[show aB M (T:Int) 2 (λa0=>cR a0 (Op.mk o.arity o.table) (T:Int))=some true from h2];rfl
  ·refine .inr ⟨λh=>h1 h.2,?_⟩
   rw[show aB M (T:Int) 2 (λa0=>cR a0 (Op.mk o.arity o.table) (T:Int))=some false from h2];rfl
 ·rw[if_neg (by rw[ho.ar];simp;omega)]
  exact .inr ⟨λh=>hm h.1,rfl⟩
theorem xJw {m:Nat} (qa:1<=T/\T<=4) {o:Op} (ho:B9 T o m):eX (aZ N (T:Int) o 7) (K7 T m o):=by
 have e:aZ N (T:Int) o 7=xG (eY (T:Int) o true false) λz1=>some z1:=rfl;rw[e,xLm]
 unfold eY
 by_cases hm:m=3
 ·subst hm
  rw[if_neg (by rw[ho.ar];decide),Ad]
  have key:=yA (xBl (ρ:=Bool) (r:=false) (n:=T) (λa:Nat=>∀ b:Nat,b<T->V T o [(a:Int),(a:Int),(b:Int)]=(a:Int)/\V T o [(b:Int),(a:Int),(a:Int)]=(a:Int)/\V T o [(a:Int),(b:Int),(a:Int)]=(a:Int)) (b:=λ(k1:Nat) (s:Unit)=>match s with | _=>oZ (σ:=Unit) (qM (λk2 s=>match s with | _=>oZ (σ:=Int) (if false then some (.nx (k2:Int)) else some (.nx (k1:Int))) λs1=>oZ (σ:=Bool) (xG (qV (T:Int) o ([(k1:Int),(k1:Int),(k2:Int)])) λz2=>if (z2 != s1) then  some (.nx true) else  xG (qV (T:Int) o ([(k2:Int),(k1:Int),(k1:Int)])) λz3=>if (z3 != s1) then  some (.nx true) else  if true then  xG (qV (T:Int) o ([(k1:Int),(k2:Int),(k1:Int)])) λz4=>some (.nx (z4 != s1)) else  some (.nx false)) λs2=>if s2 then some (.ret (.ret false)) else some (.go ())) T 0 ()) λ_=>some (.go ())) λa ha=>by
   have inner:=xBl (ρ:=Ctl Unit Bool) (r:=Ctl.ret false) (n:=T) (λb:Nat=>V T o [(a:Int),(a:Int),(b:Int)]=(a:Int)/\V T o [(b:Int),(a:Int),(a:Int)]=(a:Int)/\V T o [(a:Int),(b:Int),(a:Int)]=(a:Int)) (b:=λ(k2:Nat) (s:Unit)=>match s with | _=>oZ (σ:=Int) (if false then some (.nx (k2:Int)) else some (.nx (a:Int))) λs1=>oZ (σ:=Bool) (xG (qV (T:Int) o ([(a:Int),(a:Int),(k2:Int)])) λz2=>if (z2 != s1) then  some (.nx true) else  xG (qV (T:Int) o ([(k2:Int),(a:Int),(a:Int)])) λz3=>if (z3 != s1) then  some (.nx true) else  if true then  xG (qV (T:Int) o ([(a:Int),(k2:Int),(a:Int)])) λz4=>some (.nx (z4 != s1)) else  some (.nx false)) λs2=>if s2 then some (.ret (.ret false)) else some (.go ())) (λb hb=>by
    simp only[Af,if_false,if_true,thn_nx,(fE qa ho (xOd ha ha hb) rfl).2.1,(fE qa ho (xOd hb ha ha) rfl).2.1,(fE qa ho (xOd ha hb ha) rfl).2.1,bnd_s]
    by_cases g1:V T o [(a:Int),(a:Int),(b:Int)]=(a:Int)
    ·by_cases g2:V T o [(b:Int),(a:Int),(a:Int)]=(a:Int)
     ·by_cases g3:V T o [(a:Int),(b:Int),(a:Int)]=(a:Int)
      ·exact .inl ⟨⟨g1,g2,g3⟩,by simp [g1,g2,g3,oZ]⟩
      ·exact .inr ⟨λh=>g3 h.2.2,by simp [g1,g2,g3,oZ]⟩
     ·exact .inr ⟨λh=>g2 h.2.1,by simp [g1,g2,oZ]⟩
    ·exact .inr ⟨λh=>g1 h.1,by simp [g1,oZ]⟩)
   rcases inner with ⟨h1,h2⟩ | ⟨h1,h2⟩
   ·exact .inl ⟨h1,congrArg (λz=>oZ z λ_=>some (Ctl.go ())) h2⟩
   ·exact .inr ⟨h1,congrArg (λz=>oZ z λ_=>some (Ctl.go ())) h2⟩)
  exact key.of ⟨λh=>⟨rfl,h⟩,λh=>h.2⟩
 ·rw[if_pos (by rw[ho.ar];simp;omega)]
  exact .inr ⟨λh=>hm h.1,rfl⟩
theorem xTa {m:Nat} (qa:1<=T/\T<=4) {o:Op} (ho:B9 T o m) (hN:10<=N):pW (T:Int) o=some true/\uH N (T:Int) o=some true:=by
 have hs:okS (T:Int)=true:=by simp [okS];omega
 have hm:(decide ((1:Int)<=o.arity) && decide (o.arity<=3))=true:=by rw[ho.ar];have:=ho.m1;have:=ho.m3;simp;omega
 have hp:=tD qa (n:=m) (by have:=ho.m3;omega) hN
 have hv:∀ x∈o.table,okV (T:Int) x=true:=λx hx=>by have:=ho.tb x hx;simp [okV];omega
 constructor
 ·unfold pW
  rw[xGo,hs,bnd_s,if_pos rfl]
  unfold gY
  rw[fG,bnd_s,hm,bnd_s,if_pos rfl,ho.ar,hp.1,bnd_s,yW hs,bnd_s]
  have:xAb (T:Int) o.table ((T ^ m:Nat):Int)=true:=by
   unfold xAb
   rw[ho.tl];simp only[beq_self_eq_true,Db,Ci];exact hv
  rw[this];rfl
 ·have qc:cU (T:Int)=some true:=by
   unfold cU
   rw[dV,bnd_s,show(decide ((1:Int)<=(T:Int)) && decide ((T:Int)<=4))=true from hs]
  have qd:cY (m:Int)=some true:=by
   unfold cY
   rw[<- ho.ar,dV,bnd_s,hm]
  unfold uH
  rw[qc,bnd_s,if_neg (by decide),ho.ar,qd,bnd_s,if_neg (by decide),hp.2,bnd_s,ho.tl,bne_self_eq_false,thn_nx,if_neg (by decide)]
  have:∀ (l:List Int) (k:Nat),(∀ x∈l,okV (T:Int) x=true)->oM (σ:=Unit) (ρ:=Bool) (λk1 (x1:Int) s=>match s with | _=>xG (ck ((T:Int) - 1)) λz1=>xG (zZ x1 0 z1) λz2=>if (!z2) then some (.ret false) else some (.go ())) l k ()=some (.nx ()):=by
   intro l
   induction l with
   | nil=>intro k _;rfl
   | cons x l ih=>
    intro k h;have hx:=h x (Bh ..)
    rw[vQ (s':=()) (by
     simp only[zJ (x:=(T:Int) - 1) (by omega) (by omega),bnd_s,dV];rw[show(decide ((0:Int)<=x) && decide (x<=(T:Int) - 1))=true from hx]
     rfl)]
    exact ih (k+1) λy hy=>h y (Aw _ hy)
  rw[this o.table 0 hv]
  rfl
theorem xNx {t:A6} {x:A7} {o:Op} {m:Nat} {k:Int} (ht:nF t) (hi:sU t x=true) (ho:B9 T o m) (hk:k=6∨k=7) (hu:TV T t) (hN:1100<=N) :
 ∃ e,eJ N t x o k=some e/\pI N t x o k=some e/\(e=0->(k=6->K6 T m o)/\(k=7->K7 T m o)/\t.rels.all (gN N T o)=true):=by
 have qa:=hu.t;obtain⟨i1,i2⟩:=xFn (x:=x) ht;rw[hi] at i1 i2;have hv:=xTa qa ho (N:=N) (by omega)
 have qc:∃ b,zN N (T:Int) o k=some b/\aZ N (T:Int) o k=some b/\(b=true->(k=6->K6 T m o)/\(k=7->K7 T m o)):=by
  rcases hk with rfl | rfl
  ·obtain⟨b,h1,h2⟩:=(xDy (N:=N) qa ho (by omega)).some
   exact⟨b,h1,by rw[<- h1];exact(xLo qa ho (by omega)).eq (xDy qa ho (by omega)),λh=>⟨λ_=>h2.1 h,λh=>by cases h⟩⟩
  ·obtain⟨b,h1,h2⟩:=(xEg (N:=N) qa ho (by omega)).some
   exact⟨b,h1,by rw[<- h1];exact(xJw qa ho).eq (xEg qa ho (by omega)),λh=>⟨λh=>(by cases h),λ_=>h2.1 h⟩⟩
 obtain⟨b,k1,k2,k3⟩:=qc;obtain⟨z,z1,z2,z3⟩:=xLs (N:=N) (by omega) hu ho
 unfold eJ pI
 rw[show A6.mk t.size t.rels=t from rfl,show A7.mk x.vars x.cons=x from rfl,show Op.mk o.arity o.table=o from rfl,i1,i2,hu.s,bnd_s,bnd_s,hv.1,hv.2,k1,k2,z1,z3];simp only[Bm,Af,if_false,bnd_s,thn_nx]
 have hz:(z != -1) = !t.rels.all (gN N T o):=by rw[<- z2];rfl
 rw[hz]
 cases b with
 | false=>exact⟨4,rfl,rfl,λh=>by cases h⟩
 | true=>
  cases hA:t.rels.all (gN N T o) with
  | false=>exact⟨4,rfl,rfl,λh=>by cases h⟩
  | true=>exact⟨0,rfl,rfl,λ_=>⟨(k3 rfl).1,(k3 rfl).2,rfl⟩⟩
end
end Go.Proofs.YtnjlbbfcngjhmaaGreat
