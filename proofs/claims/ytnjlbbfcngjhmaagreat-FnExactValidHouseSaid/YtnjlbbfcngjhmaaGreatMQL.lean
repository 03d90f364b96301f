import Derived.Test.YtnjlbbfcngjhmaaGreatMQ5
namespace Go.Proofs.YtnjlbbfcngjhmaaGreat
set_option linter.unusedVariables false
set_option linter.unusedSimpArgs false
section
variable {T:Nat}
theorem pK {α σ ρ:Type} {f:Nat->σ->Option (Ctl σ ρ)} {g:Nat->α->σ->Option (Ctl σ ρ)}:∀ (l:List α) (k k':Nat) (s:σ),(∀ j x s,l[j]?=some x->f (k+j) s=g (k'+j) x s)->qM f l.length k s=oM g l k' s
 | [],_,_,_,_=>rfl
 | x::l,k,k',s,h=>by
  have h0:=h 0 x s rfl;rw[Cb,Cb] at h0
  have ih:∀ s,qM f l.length (k+1) s=oM g l (k'+1) s:=λs=>pK l (k+1) (k'+1) s λj y s hj=>by
   rw[show k+1+j=k+(j+1) by omega,show k'+1+j=k'+(j+1) by omega];exact h (j+1) y s hj
  simp only[Am,qM,oM,h0,ih]
def xWu (T:Nat) (dom:List (List Int)):Prop:=∀ d∈dom,bK T d
theorem xWu.stay {x:A6} {c:Con} {p:Nat} {v:Int}:xYr (xWu T) x c p v:=by
 intro dom a hk _ d hd
 rcases Cx hd with hd | rfl
 ·exact hk d hd
 ·intro b hb
  have hb:=(Cz.1 hb).1;rw[Ao] at hb
  rcases hj:dom[v.toNat]? with _ | e
  ·rw[hj] at hb;cases hb
  ·rw[hj] at hb;exact hk e (Ae hj) b hb
theorem xNn {N:Nat} {t:A6} {y:A7} (hu:TV T t) (hv:1<=y.vars/\y.vars<=10) (hC:∀ c∈y.cons,CV t y.vars c) (hN:1100<=N):∃ r:List B3×List (List Int),gG N t y (List.replicate y.vars.toNat (rJ 0 T)) (λ_=>iP)=some r/\nB N t y (List.replicate y.vars.toNat (rJ 0 T))=some r/\r.2.length=y.vars.toNat/\xWu T r.2/\(∀ d∈r.2,d.length<=40)/\r.1.length<=40:=by
 have hT:=hu.t
 have ht:tot (List.replicate y.vars.toNat (rJ 0 T))<=40:=by
  rw[oDd,xZt];exact Cj (Nat.mul_le_mul (show y.vars.toNat<=10 by omega) hT.2) (Az _)
 have qa:xWu T (List.replicate y.vars.toNat (rJ 0 T)):=by
  intro d hd;rw[Ca hd];intro a ha
  unfold rJ at ha
  simp at ha
  obtain⟨j,hj,rfl⟩:=ha
  omega
 obtain⟨r,r',h1,h2,rfl,h4,h5,hk,_⟩:=oAn (K:=xWu T) (λc hc p v hp=>xWu.stay) qa (N:=N) (x:=t) (y:=y) (n:=y.vars.toNat) (dom:=List.replicate y.vars.toNat (rJ 0 T)) (by omega) (λc hc=>xXg hu (hC c hc) hv.1) ⟨Bv,λd hd=>by rw[Ca hd];exact xSl _ _,Az _⟩ (by omega) (by omega) (by omega) (by omega);refine⟨r,h1,?_,h4.len,hk,λd hd=>?_,by omega⟩
 ·unfold nB
  rw[h2,bnd_s]
 ·have:=xDg hd
  have:=h4.le
  omega
theorem xSd (L:List (List Int)):oJ L (λa0=>tG a0)=some (L.any λd=>(d.length:Int)==0)/\mS L=some (L.any λd=>(d.length:Int)==0):=by
 refine⟨tB L _ _ λd _=>rfl,?_⟩
 unfold mS
 have:∀ (l:List (List Int)) (k:Nat),oZ (oM (σ:=Unit) (ρ:=Bool) (λk1 (x1:(List Int)) s=>match s with | _=>if ((x1.length:Int)==0) then some (.ret true) else some (.go ())) l k ()) (λ_=>some false)=some (l.any λd=>(d.length:Int)==0):=by
  intro l
  induction l with
  | nil=>intro k;rfl
  | cons d l ih=>
   intro k
   by_cases h:((d.length:Int)==0)=true
   ·rw[fP (r:=true) (by simp only[h,if_true])]
    simp [h,oZ]
   ·rw[vQ (s':=()) (by simp only[h];rfl),ih (k+1)]
    have h':((d.length:Int)==0)=false:=by simpa using h
    rw[Dx,h',Ee]
 exact this L 0
theorem xOi {T:Nat} (qa:1<=T/\T<=4) {o:Op} (ho:B9 T o 2) {ρ:Type}:∀ (l:List Int) (k:Nat) (s:Int),bK T l->0<=s/\s<(T:Int)->∃ v,oM (σ:=Int) (ρ:=ρ) (λk1 x1 s1=>xG (aM o (T:Int) ([s1,x1])) λz1=>some (.go z1)) l k s=some (.nx v)/\0<=v/\v<(T:Int)
 | [],_,s,_,hs=>⟨s,rfl,hs⟩
 | x::l,k,s,h,hs=>by
  have hx:=h x (Bh ..)
  have hv:=fE qa ho (l:=[s,x]) (λa ha=>by
   rcases Av.1 ha with rfl | ha
   ·exact hs
   ·rw[Bd.1 ha];exact hx) rfl
  rw[vQ (s':=V T o [s,x]) (by rw[hv.1,bnd_s])];exact xOi qa ho l (k+1) _ (λa ha=>h a (Aw _ ha)) hv.2.2
theorem xXk (qa:1<=T/\T<=4) {o:Op} (ho:B9 T o 2) {d:List Int} (hd:bK T d) (h0:d≠[]) (hl:d.length<=1000):∃ v,eC (T:Int) o d=some v/\iN (T:Int) o d=some v/\0<=v/\v<(T:Int):=by
 match d with
 | []=>exact absurd rfl h0
 | a::d=>
  obtain⟨v,h1,h2⟩:=xOi (ρ:=Int) qa ho d 0 a (λx hx=>hd x (Aw _ hx)) (hd a (Bh ..));refine⟨v,?_,?_,h2⟩
  ·unfold eC
   have hs:sl (a::d) 1 ((a::d).length:Int)=some d:=by
    unfold sl
    rw[if_pos ⟨by omega,by simp only[Am];omega,by simp only[Am];omega⟩]
    simp
   rw[show ix (a::d) 0=some a from rfl,bnd_s,hs,bnd_s,show Op.mk o.arity o.table=o from rfl,h1]
   rfl
  ·unfold iN
   rw[show ix (a::d) 0=some a from rfl,bnd_s,show(((a::d).length:Int) - 1).toNat=d.length by simp only[Am];omega]
   rw[pK (g:=λ(k1:Nat) (x1:Int) (s1:Int)=>xG (aM o (T:Int) ([s1,x1])) λz1=>some (.go z1)) d 0 0 a (λj x s hj => by
    have:ix (a::d) (1+((0+j:Nat):Int))=some x:=lK (by omega) (by rw[show(1+((0+j:Nat):Int)).toNat=j+1 by omega];exact hj);simp only[this,bnd_s]
    rfl),h1]
   rfl
theorem oAi {N m:Nat} {t:A6} {x:A7} {o:Op} (ht:nF t) (hi:sU t x=true) (hu:TV T t) (ho:B9 T o m) (hN:1100<=N):∃ r,bL N t x o=some r/\bJ N t x o=some r:=by
 have qa:=hu.t;obtain⟨e,e1,e2,e3⟩:=xNx (N:=N) (k:=6) ht hi ho (.inl rfl) hu hN
 unfold bL bJ
 rw[show A6.mk t.size t.rels=t from rfl,show A7.mk x.vars x.cons=x from rfl,show Op.mk o.arity o.table=o from rfl,e1,e2,bnd_s,bnd_s]
 by_cases h0:e=0
 ·subst h0
  obtain⟨hm,-⟩:=(e3 rfl).1 rfl;subst hm;obtain⟨hv,-,hC⟩:=xIw hi;obtain⟨r,a1,a2,a3,a4,a5,a6⟩:=xNn hu hv hC hN;have g:=xSd r.2;rw[if_neg (by decide),if_neg (by decide),xNi hu hv,xNd hu hv,bnd_s,bnd_s,a1,a2,bnd_s,bnd_s,g.1,g.2,bnd_s,bnd_s]
  by_cases hg:(r.2.any λd=>(d.length:Int)==0)=true
  ·rw[if_pos hg,if_pos hg];exact⟨_,rfl,rfl⟩
  ·rw[if_neg hg,if_neg hg]
   have qc:∀ d∈r.2,d≠[]:=λd hd h=>hg (List.any_eq_true.2 ⟨d,hd,by rw[h];rfl⟩)
   have hf:∀ d∈r.2,eC t.size o d=some ((eC t.size o d).getD 0)/\iN t.size o d=some ((eC t.size o d).getD 0):=λd hd=>by
    obtain⟨v,h1,h2,_⟩:=xXk qa ho (a4 d hd) (qc d hd) (by have:=a5 d hd;omega);rw[hu.s,h1];exact⟨rfl,h2⟩
   obtain⟨g,hf⟩:∃ g:List Int->Int,∀ d∈r.2,eC t.size o d=some (g d)/\iN t.size o d=some (g d):=⟨λd=>(eC t.size o d).getD 0,hf⟩;rw[mQ r.2 g (λk d s hd hs=>by have hj:=(Ac.1 hd).1;rw[(hf d (Ae hd)).1,bnd_s,kX (by simp only[Ak];omega),bnd_s]) r.2 0 [] rfl rfl];rw[mQ r.2 g (λk d s hd hs=>by have hj:=(Ac.1 hd).1;rw[(hf d (Ae hd)).2,bnd_s,kX (by simp only[Ak];omega),bnd_s]) r.2 0 [] rfl rfl];exact⟨_,rfl,rfl⟩
 ·rw[if_pos (by simp [h0]),if_pos (by simp [h0])]
  exact⟨_,rfl,rfl⟩
end
section
theorem xUk {α ρ:Type} (L:List α) (p:α->Bool) {b:Bool×Int->Option (Ctl (Bool×Int) ρ)}
 (h1:∀ (i:Nat) t,L[i]?=some t->b (true,(i:Int))=some (.go (p t,((i+1:Nat):Int))))
 (h2:∀ (f:Bool) (i:Nat),(f=false∨L.length<=i)->b (f,(i:Int))=some (.brk (f,(i:Int)))) :
 ∀ (r:List α) (i N:Nat),L.drop i=r->r.length+2<=N->∃ j:Nat,mL b N (true,(i:Int))=some (.nx (r.all p,(j:Int)))
 | [],i,N,hr,hN=>by
  obtain⟨M,rfl⟩:∃ M,N=M+1:=⟨N - 1,by omega⟩;have hl:=congrArg List.length hr;rw[Dk] at hl;rw[bY (h2 true i (.inr (by simp at hl;omega)))];exact⟨i,rfl⟩
 | t::r,i,N,hr,hN=>by
  obtain⟨M,rfl⟩:∃ M,N=M+1:=⟨N - 1,by omega⟩
  have ht:L[i]?=some t:=by rw[<- Ek,hr];rfl
  have hd:L.drop (i+1)=r:=by rw[<- Eg,hr];rfl
  rw[eT (h1 i t ht)]
  by_cases hp:p t=true
  ·rw[hp]
   obtain⟨j,hj⟩:=xUk L p h1 h2 r (i+1) M hd (by simp at hN;omega);exact⟨j,by rw[hj];simp [hp]⟩
  ·have qa:p t=false:=by simpa using hp
   rw[qa];obtain⟨K,rfl⟩:∃ K,M=K+1:=⟨M - 1,by simp at hN;omega⟩;rw[bY (h2 false (i+1) (.inl rfl))];exact⟨i+1,by simp [qa]⟩
def xLk (t:List Int) (i j a b:Int) (k:Nat) (v:Int):Bool:=(v==i && t.getD k 0 != a) || (v==j && t.getD k 0 != b)
def xCx (i j a b:Int) (t:List Int):List Int->Nat->Bool | [],_=>false | v::l,k=>xLk t i j a b k v || xCx i j a b t l (k+1)
def xSu (c:Con) (i j a b:Int) (t:List Int):Bool:=!xCx i j a b t c.scope 0 && agB c.scope t
theorem oAd {ρ : Type} {t : List Int} {i j a b v : Int} {k : Nat} (hk : k < t.length) : (if (v == i) then xG (ix t (k : Int)) λz1 =>if (z1 != a) then some (Out.nx true) else if (v==j) then some (Out.nx (z1 != b)) else some (Out.nx (σ:=Bool) (ρ:=ρ) false) else if (v==j) then xG (ix t (k:Int)) λz2=>some (.nx (z2 != b)) else some (.nx false))=some (.nx (xLk t i j a b k v)):=by
 rw[iJ hk,bnd_s,bnd_s]
 unfold xLk
 generalize t.getD k 0=x
 cases (v==i)<;>cases (v==j)<;>cases (x != a)<;>simp
theorem xQq {i j a b:Int} {t:List Int}:∀ (l:List Int) (k:Nat),fnd (λk v=>if xLk t i j a b k v then some false else none) l k=if xCx i j a b t l k then some false else none
 | [],_=>rfl
 | v::l,k=>by
  unfold fnd xCx
  cases h:xLk t i j a b k v
  ·simp only[Af,if_false,Ee];exact xQq l (k+1)
  ·simp
theorem xSy {c:Con} {i j a b:Int} {t:List Int} (h:t.length=c.scope.length):fR t c i a j b=some (xSu c i j a b t):=by
 unfold fR
 rw[dC (λk v=>if xLk t i j a b k v then some false else none) (λp v hp=>by
  have hpl:=(Ac.1 hp).1;rw[Bj];simp only;rw[oAd (by omega),thn_nx]
  cases xLk t i j a b p v<;>rfl),xQq]
 unfold xSu
 cases xCx i j a b t c.scope 0
 ·show xG _ _=_
  rw[xNw c t h,bnd_s]
  simp
 ·simp [xIf]
theorem xJt {ρ : Type} {i j a b : Int} {t : List Int} : ∀ (l : List Int) (k : Nat) (s : Bool), k + l.length<=t.length->oM (σ := Bool) (ρ := ρ) (λk1 (x1 : Int) s1 =>oZ (σ:=Bool) (if (x1==i) then  xG (ix t (k1:Int)) λz1=>if (z1 != a) then  some (.nx true) else  if (x1==j) then  some (.nx (z1 != b)) else  some (.nx false) else  if (x1==j) then  xG (ix t (k1:Int)) λz2=>some (.nx (z2 != b)) else  some (.nx false)) λs2=>if s2 then some (.go false) else some (.go s1)) l k s=some (.nx (s && !xCx i j a b t l k))
 | [],k,s,_=>by simp [oM,xCx]
 | v::l,k,s,h=>by
  rw[Am] at h
  rw[vQ (s':=s && !xLk t i j a b k v) (by
   rw[oAd (by omega),thn_nx]
   cases xLk t i j a b k v<;>simp),xJt l (k+1) _ (by omega)]
  rw[show xCx i j a b t (v::l) k=(xLk t i j a b k v || xCx i j a b t l (k+1)) from rfl]
  cases s<;>cases xLk t i j a b k v<;>rfl
def xBs (u:A6) (i j a b:Int) (c:Con):Bool:=if !(c.scope.any (· == i)) && !(c.scope.any (· == j)) then true else (u.rels.getD c.rel.toNat default).tuples.any (xSu c i j a b)
theorem xKr {T:Nat} {u:A6} {n:Int} {c:Con} (i j a b:Int) (hu:TV T u) (hc:CV u n c):fL c u i j a b=some (xBs u i j a b c)/\gD u c i j a b=some (xBs u i j a b c):=by
 obtain⟨hsc,r,r0,r1,r2,r3⟩:=hc;obtain⟨m,e,n1,n4,hasc,hm⟩:=hu.r r r2
 have hl:∀ t∈r.tuples,t.length=c.scope.length:=λt ht=>by have:=(cK.1 (hm t ht)).1;omega
 have hg:u.rels.getD c.rel.toNat default=r:=by rw[Ao,r1];rfl
 unfold fL gD xBs
 rw[hg,xBx,xBx,xGq,xGq];simp only[bnd_s]
 have e1:(oZ (σ:=Bool) (ρ:=Bool) (if (!(c.scope.any (· == i))) then some (.nx (!(c.scope.any (· == j)))) else some (.nx false)))=λk=>k (!(c.scope.any (· == i)) && !(c.scope.any (· == j))):=by
  funext k
  cases c.scope.any (· == i)<;>rfl
 rw[e1]
 cases (!(c.scope.any (· == i)) && !(c.scope.any (· == j))) with
 | true=>exact⟨rfl,rfl⟩
 | false=>
  simp only[if_neg (show ¬ (false=true) by simp),lK r0 r1,bnd_s]
  constructor
  ·rw[tB _ (xSu c i j a b) _ (λt ht=>xSy (c:=c) (hl t ht)),bnd_s]
  ·rw[dC (λ_ t=>if xSu c i j a b t then some true else none) (λp t hp=>by
    have ht:=hl t (Ae hp);rw[xQg c t ht,bnd_s,xJt c.scope 0 _ (by omega),thn_nx]
    unfold xSu
    cases agB c.scope t<;>cases xCx i j a b t c.scope 0<;>rfl),tE]
   cases r.tuples.any (xSu c i j a b)<;>rfl
def xRq (u:A6) (y:A7) (i j:Int) (d:List Int):Bool:=y.cons.all (xBs u i j (d.getD 0 0) (d.getD 1 0))
def xKx (T:Nat) (u:A6) (y:A7) (i j:Int):Rel:=⟨2,(vH T 2).filter (xRq u y i j)⟩
theorem xSx {N T:Nat} {u:A6} {y:A7} (hu:TV T u) (hC:∀ c∈y.cons,CV u y.vars c) (hN:10<=N) (i j:Int):iQ N u.size 2 (λa0=>bT a0 (A7.mk y.vars y.cons) (A6.mk u.size u.rels) i j)=some (xKx T u y i j):=by
 have h:=xRm (N:=N) (T:=T) (n:=2) hu.t (by omega) hN (is:=λa0=>bT a0 (A7.mk y.vars y.cons) (A6.mk u.size u.rels) i j) (xRq u y i j) (λd hd=>by
  have hl:=(cK.1 hd).1
  unfold bT
  rw[yL y.cons (λc=>!xBs u i j (d.getD 0 0) (d.getD 1 0) c) _ (λc hc=>by
   unfold gR
   have h0:ix d 0=some (d.getD 0 0):=iJ (k:=0) (by omega);have h1:ix d 1=some (d.getD 1 0):=iJ (k:=1) (by omega);rw[h0,h1,bnd_s,bnd_s];have h2:fL (Con.mk c.rel c.scope) (A6.mk u.size u.rels) i j (d.getD 0 0) (d.getD 1 0)=some (xBs u i j (d.getD 0 0) (d.getD 1 0) c):=(xKr i j _ _ hu (hC c hc)).1
   rw[h2,bnd_s]),bnd_s,<- Ej,Bool.not_not]
  rfl)
 rw[hu.s];exact h
theorem oCg:∀ T:Nat,T<5->∀ k:Nat,k<T*T->(vH T 2)[k]?=some [(k:Int).tdiv T,(k:Int).tmod T]:=by decide +kernel
theorem oDi:∀ T:Nat,T<5->∀ k:Nat,k<T*T->dv (k:Int) T=some ((k:Int).tdiv T)/\rm (k:Int) T=some ((k:Int).tmod T):=by decide +kernel
theorem xPb:∀ T:Nat,T<5->(vH T 2).length=T*T/\ck ((T:Int)*(T:Int))=some ((T*T:Nat):Int)/\T*T<=16:=by decide +kernel
theorem xWa {N T:Nat} {u:A6} {y:A7} {ρ:Type} (hu:TV T u) (hy:y.cons.length<=24) (hC:∀ c∈y.cons,CV u y.vars c) (hN:100<=N) (i j:Int):∀ (M k:Nat) (s:List (List Int)),T*T - k<M->k<=T*T->s.length<=k->
 mL (σ:=Int×(List (List Int))) (ρ:=ρ) (λs=>match s with | (s1,s2)=>xG (ck (u.size*u.size)) λz1=>if (decide (s1<z1)) then xG (dv s1 u.size) λz2=>xG (rm s1 u.size) λz3=>oZ (σ:=Bool×Int) (mL (λs=>match s with | (s3,s4)=>oZ (σ:=Bool) (if (decide (s4<(y.cons.length:Int))) then  some (.nx s3) else  some (.nx false)) λs5=>if s5 then xG (ix y.cons s4) λz4=>xG (gD u z4 i j z2 z3) λz5=>xG (ck (s4+1)) λz6=>some (.go (z5,z6)) else some (.brk (s3,s4))) N (true,0)) λ(s6,s7)=>if s6 then xG (ap s2 ([[z2,z3]])) λz7=>xG (ck (s1+1)) λz8=>some (.go (z8,z7)) else xG (ck (s1+1)) λz9=>some (.go (z9,s2)) else some (.brk (s1,s2))) M ((k:Int),s)=some (.nx (((T*T:Nat):Int),s++((vH T 2).drop k).filter (xRq u y i j))):=by
 intro M
 induction M with
 | zero=>intro k s h;omega
 | succ M ih=>
  intro k s hM hk hs;have qa:u.size=(T:Int):=hu.s;obtain⟨qf,h4,h16⟩:=xPb T (by have:=hu.t;omega)
  rcases Dy k (T*T) with qc | hge
  ·have qd:=oCg T (by have:=hu.t;omega) k qc
   have hd:(vH T 2).drop k=[(k:Int).tdiv T,(k:Int).tmod T]::(vH T 2).drop (k+1):=by
    have hl:k<(vH T 2).length:=by rw[qf];exact qc
    rw[Br hl];rw[Aa hl] at qd;rw[Option.some.inj qd]
   obtain⟨h5,h6⟩:=oDi T (by have:=hu.t;omega) k qc;have qg:∃ b:Bool,b=xRq u y i j [(k:Int).tdiv T,(k:Int).tmod T]:=⟨_,rfl⟩;obtain⟨b,hb⟩:=qg
   obtain ⟨e, he⟩ := xUk y.cons (xBs u i j ((k : Int).tdiv T) ((k : Int).tmod T)) (ρ := (Ctl (Int × (List (List Int))) ρ)) (b := λ(s : Bool × Int) =>match s with | (s3,s4)=>oZ (σ:=Bool) (if (decide (s4<(y.cons.length:Int))) then  some (.nx s3) else  some (.nx false)) λs5=>if s5 then xG (ix y.cons s4) λz4=>xG (gD u z4 i j ((k:Int).tdiv T) ((k:Int).tmod T)) λz5=>xG (ck (s4+1)) λz6=>some (.go (z5,z6)) else some (.brk (s3,s4))) (λq c hq=>by
    have hql:=(Ac.1 hq).1;simp only;rw[if_pos (by simp;omega),thn_nx,if_pos rfl,vE hq,bnd_s,(xKr i j _ _ hu (hC c (Ae hq))).2,bnd_s,zJ (by omega) (by omega),bnd_s]
    rfl) (λf q qh=>by
    by_cases hl:((q:Int)<(y.cons.length:Int))
    ·have hf:f=false:=by
      rcases qh with h | h
      ·exact h
      ·omega
     subst hf
     simp [hl]
    ·simp [hl]) y.cons 0 N rfl (by omega)
   have qi:y.cons.all (xBs u i j ((k:Int).tdiv T) ((k:Int).tmod T))=b:=by rw[hb];rfl
   rw[qi,show(((0:Nat)):Int)=0 from rfl] at he;rw[hd,Dv,<- hb]
   cases qe:b with
   | true=>
    rw[qe] at he
    rw[eT (s':=(((k+1:Nat):Int),s++[[(k:Int).tdiv T,(k:Int).tmod T]])) (by
     simp only[qa,h4,bnd_s,h5,h6];rw[if_pos (by simp;omega),he,thn_nx,if_pos rfl,kX (by simp only[Am,Bi];omega),bnd_s,zJ (by omega) (by omega),bnd_s]
     rfl),ih (k+1) _ (by omega) (by omega) (by
      rw[Aq,Ak];omega),if_pos rfl,Df]
    rfl
   | false=>
    rw[qe] at he
    rw[eT (s':=(((k+1:Nat):Int),s)) (by
     simp only[qa,h4,bnd_s,h5,h6];rw[if_pos (by simp;omega),he,thn_nx,if_neg (by simp),zJ (by omega) (by omega),bnd_s]
     rfl),ih (k+1) _ (by omega) (by omega) (by omega),if_neg (by simp)]
  ·obtain rfl:k=T*T:=by omega
   rw[bY (s':=(((T*T:Nat):Int),s)) (by
    simp only[qa,h4,bnd_s]
    rw[if_neg (by simp)])]
   have:(vH T 2).drop (T*T)=[]:=Cp (by omega);rw[this,List.filter_nil,Cd]
end
section
variable {T:Nat} {i:Nat} {j:Nat} {L:List Rel}
theorem cG.forI {σ σ' ρ ρ':Type} {f:Nat->σ->Option (Ctl σ ρ)} {g:Nat->σ'->Option (Ctl σ' ρ')} (d:Nat) (R:Nat->σ->σ'->Prop) (Q:ρ->ρ'->Prop):∀ {m k:Nat} {s:σ} {s':σ'},R k s s'->
 (∀ j s s',k<=j->j<k+m->R j s s'->cG (f (j+d) s) (g j s') (oHx (R (j+1)) (λ_ _=>False) Q))->cG (Go.Proofs.YtnjlbbfcngjhmaaGreat.qM f m (k+d) s) (Go.Proofs.YtnjlbbfcngjhmaaGreat.qM g m k s') (xVw (R (k+m)) Q)
 | 0,k,s,s',h,_=>cG.s h
 | m+1,k,s,s',h,hh=>by
  obtain⟨a,b,h1,h2,h3⟩:=hh k s s' (Az _) (by omega) h
  cases a with
  | go t=>cases b with
   | go t'=>
    rw[zM h1,zM h2];have:=cG.forI d R Q (m:=m) (k:=k+1) (s:=t) (s':=t') h3 (λj s s' h1 h2 h3=>hh j s s' (by omega) (by omega) h3);rw[Nat.add_right_comm,show k+(m+1)=k+1+m by omega];exact this
   | brk _=>exact h3.elim
   | ret _=>exact h3.elim
  | brk _=>cases b<;>exact h3.elim
  | ret r=>cases b with
   | ret r'=>rw[mR h1,mR h2];exact cG.s h3
   | go _=>exact h3.elim
   | brk _=>exact h3.elim
def tri:Nat->Nat | 0=>0 | n+1=>tri n+n
theorem xTk {V:Nat} (h:i<j) (hj:j<V):tri j+i<tri V:=by
 induction V with
 | zero=>omega
 | succ V ih=>
  show tri j+i<tri V+V
  rcases Dy j V with h1 | h1
  ·have:=ih h1;omega
  ·obtain rfl:j=V:=by omega
   omega
theorem xTc {V:Nat} (h:V<=10):tri V<=45:=by
 have:∀ V:Nat,V<11->tri V<=45:=by decide
 exact this V (by omega)
theorem oIq:∀ j:Nat,j<11->ck ((j:Int) - 1)=some ((j:Int) - 1)/\ck ((j:Int)*((j:Int) - 1))=some ((j:Int)*((j:Int) - 1))/\dv ((j:Int)*((j:Int) - 1)) 2=some (tri j:Int):=by decide
structure RelOk (T:Nat) (r:Rel):Prop where
  t:1<=T/\T<=4
  ar:r.arity=2
  asc:Asc r.tuples
  m:∀ t∈r.tuples,t∈vH T 2
structure C0 (T V:Nat) (L:List Rel):Prop where
  len:L.length=tri V
  r:∀ r∈L,RelOk T r
theorem oAf (hT:1<=T/\T<=4) (u:A6) (y:A7) (i j:Int):RelOk T (xKx T u y i j):=⟨hT,rfl,(xKk T 2).filter _,λt ht=>(Cz.1 ht).1⟩
theorem xWp {N V:Nat} {u:A6} {y:A7} (hu:TV T u) (hy:y.cons.length<=24) (hC:∀ c∈y.cons,CV u y.vars c) (hV:y.vars=V) (hV1:1<=V/\V<=10) (hN:100<=N):cG (fF N u y) (lA N u y) (λL L'=>L=L'/\C0 T V L):=by
 obtain⟨m,rfl⟩:∃ m,V=m+1:=⟨V - 1,by omega⟩
 unfold fF lA
 rw[hV,show(((m+1:Nat):Int)).toNat=m+1 by omega,show(((m+1:Nat):Int) - 1).toNat=m by omega];have hb:=xTc (V:=m+1) (by omega);rw[zM (s':=[]) (k:=0) rfl];refine cG.thn (λs s'=>s=s'/\s.length=tri (m+1)/\∀ r∈s,RelOk T r) (λ_ _=>False) (cG.mono (cG.forI 1 (λk s s'=>s=s'/\s.length=tri (k+1)/\∀ r∈s,RelOk T r) (λ_ _=>False) (k:=0) ⟨rfl,rfl,(λr hr=>nomatch hr)⟩ (λj s s' hj0 hj hR=>?_)) (λa a' h=>?_)) (λa a' h=>cG.s ⟨h.1,h.2.1,h.2.2⟩) (λ_ _ h=>h.elim)
 ·obtain⟨rfl,hl,hr⟩:=hR
  have qa:(1:Int)+(j:Int)=((j+1:Nat):Int):=by omega
  have qc:∀ i,i<j+1->tri (j+1)+i<45:=λi hi=>by
   have:=xTk (i:=i) (j:=j+1) (V:=m+1) hi (by omega)
   omega
  simp only[qa];rw[show(((j+1:Nat):Int)).toNat=j+1 by omega];refine cG.thn (λs s'=>s=s'/\s.length=tri (j+2)/\∀ r∈s,RelOk T r) (λ_ _=>False) (cG.mono (cG.forI 0 (λk s s'=>s=s'/\s.length=tri (j+1)+k/\∀ r∈s,RelOk T r) (λ_ _=>False) (k:=0) ⟨rfl,hl,hr⟩ (λi s s' hi0 hi hR=>?_)) (λa a' h=>?_)) (λa a' h=>cG.s ⟨h.1,h.2.1,h.2.2⟩) (λ_ _ h=>h.elim)
  ·obtain⟨rfl,hl,hr⟩:=hR
   have h9:=qc i (by omega);simp only[Cb]
   have e1:iQ N u.size 2 (λa0=>bT a0 (A7.mk ((m+1:Nat):Int) y.cons) (A6.mk u.size u.rels) (i:Int) ((j+1:Nat):Int))=some (xKx T u y i ((j+1:Nat):Int)):=by
    have:=xSx hu hC (N:=N) (by omega) (i:Int) ((j+1:Nat):Int);rw[hV] at this;exact this
   have hw:=xWa (N:=N) (y:=y) (ρ:=(Ctl ((List Rel)) (Ctl ((List Rel)) (List Rel)))) hu hy hC hN (i:Int) ((j+1:Nat):Int) N 0 [] (by have:=xPb T (by have:=hu.t;omega);omega) (by omega) (by simp);rw[show((0:Nat):Int)=0 from rfl,Er,Bp] at hw;rw[e1,bnd_s,hw,thn_nx];simp only;have e2:(Rel.mk (xKx T u y i ((j+1:Nat):Int)).arity (xKx T u y i ((j+1:Nat):Int)).tuples)=xKx T u y i ((j+1:Nat):Int):=rfl;have e3:(Rel.mk 2 ((vH T 2).filter (xRq u y i ((j+1:Nat):Int))))=xKx T u y i ((j+1:Nat):Int):=rfl;rw[e2,e3,kX (by simp only[Am,Bi];omega),bnd_s];refine cG.s ⟨rfl,by rw[Aq,Ak];omega,λr h=>?_⟩
   rcases Ar.1 h with h | h
   ·exact hr r h
   ·rw[Bd] at h;subst h;exact oAf hu.t _ _ _ _
  ·rw[Bj] at h
   exact h
 ·rw[Bj] at h
  exact h
def oCy (L:List Rel) (i j:Nat):List (List Int):=(L.getD (tri j+i) default).tuples
def lfB (L:List Rel) (p q:Nat) (a b:Int):Bool:=if q<p then decide ([b,a]∈oCy L q p) else decide ([a,b]∈oCy L p q)
theorem C0.at {V:Nat} (h:C0 T V L) (hi:i<j) (hj:j<V):L[tri j+i]?=some (L.getD (tri j+i) default)/\RelOk T (L.getD (tri j+i) default):=by
 have h1:=xTk hi hj
 have h2:L[tri j+i]?=some (L.getD (tri j+i) default):=by rw[Ao,Aa (by rw[h.len];exact h1)];rfl
 exact⟨h2,h.r _ (Ae h2)⟩
theorem RelOk.four {r:Rel} (h:RelOk T r):r.tuples.length<=16:=by
 rw[xLq h.asc h.m];have:=xPb T (by have:=h.t;omega);exact Cj (Et _ _) (by omega)
theorem yX (hi:i<j) (hj:j<10):gV (i:Int) (j:Int)=some ((tri j+i:Nat):Int)/\gH (i:Int) (j:Int)=some ((tri j+i:Nat):Int):=by
 obtain⟨h1,h2,h3⟩:=oIq j (by omega);have h4:=xTk hi hj;have h5:=xTc (V:=10) (by omega)
 have h6:ck ((tri j:Int)+(i:Int))=some ((tri j+i:Nat):Int):=by rw[zJ (by omega) (by omega)];push_cast;rfl
 unfold gV gH
 simp only[if_pos (show(i:Int)<(j:Int) by omega),if_neg (show ¬ (j:Int)<(i:Int) by omega),h1,h2,h3,h6,bnd_s];exact⟨trivial,trivial⟩
theorem pB {N V:Nat} (h:C0 T V L) (hV:V<=10) {p q:Nat} (hp:p<V) (hq:q<V) (hne:p≠q) (a b:Int) (hN:1100<=N):fV N L (p:Int) (q:Int) a b=some (lfB L p q a b)/\aD L (p:Int) (q:Int) a b=some (lfB L p q a b):=by
 unfold fV aD lfB
 rcases Dy q p with qa | hge
 ·obtain⟨h1,h2⟩:=h.at qa hp
  obtain⟨e1,e2⟩:=yX qa (by omega)
  have hd:decide ((q:Int)<(p:Int))=true:=by simp;omega
  rw[if_pos qa,hd];simp only[if_true,thn_nx,e1,e2,bnd_s,vE h1,xHg,xPh (t:=[b,a]) h2.asc (by have:=h2.four;omega) (by omega:1002<=N)];exact⟨rfl,rfl⟩
 ·obtain⟨h1,h2⟩:=h.at (show p<q by omega) hq
  obtain⟨e1,e2⟩:=yX (show p<q by omega) (by omega)
  have hd:decide ((q:Int)<(p:Int))=false:=by simp;omega
  rw[if_neg (show ¬ q<p by omega),hd];simp only[Af,if_false,thn_nx,e1,e2,bnd_s,vE h1,xHg,xPh (t:=[a,b]) h2.asc (by have:=h2.four;omega) (by omega:1002<=N)];exact⟨rfl,rfl⟩
def xBu (L:List Rel):Nat:=(L.map λr=>r.tuples.length).sum
theorem xQf:∀ (L:List Rel) (i:Nat) (d w:Rel),L[i]?=some d->xBu (L.set i w)+d.tuples.length=xBu L+w.tuples.length
 | [],i,d,w,h=>by simp at h
 | x::r,0,d,w,h=>by
  simp at h;subst h
  simp [xBu];omega
 | x::r,i+1,d,w,h=>by
  have:=xQf r i d w (by simpa using h)
  simp [xBu] at this ⊢
  omega
theorem xTz {T:Nat}:∀ (L:List Rel),(∀ r∈L,RelOk T r)->xBu L<=16*L.length
 | [],_=>by simp [xBu]
 | x::r,h=>by
  have h1:=xTz r (λy hy=>h y (by simp [hy]));have h2:=(h x (by simp)).four
  simp [xBu] at h1 ⊢
  omega
theorem xUy {α ρ:Type} (L:List α) (p:α->Bool) {b:Bool×Int->Option (Ctl (Bool×Int) ρ)}
 (h1:∀ (i:Nat) t,L[i]?=some t->b (false,(i:Int))=some (.go (p t,((i+1:Nat):Int))))
 (h2:∀ (f:Bool) (i:Nat),(f=true∨L.length<=i)->b (f,(i:Int))=some (.brk (f,(i:Int)))) :
 ∀ (r:List α) (i N:Nat),L.drop i=r->r.length+2<=N->∃ j:Nat,mL b N (false,(i:Int))=some (.nx (r.any p,(j:Int)))
 | [],i,N,hr,hN=>by
  obtain⟨M,rfl⟩:∃ M,N=M+1:=⟨N - 1,by omega⟩;have hl:=congrArg List.length hr;rw[Dk] at hl;exact⟨i,bY (h2 false i (.inr (by simp at hl;omega)))⟩
 | t::r,i,N,hr,hN=>by
  obtain⟨M,rfl⟩:∃ M,N=M+2:=⟨N - 2,by simp at hN;omega⟩
  have hi:i<L.length:=by
   rcases Dy i L.length with h | h
   ·exact h
   ·rw[Cp h] at hr;cases hr
  rw[Br hi] at hr
  injection hr with e1 e2
  have ht:L[i]?=some t:=by rw[Aa hi,e1]
  rw[show M+2=(M+1)+1 from rfl,eT (h1 i t ht),Dx]
  cases hp:p t with
  | true=>exact⟨i+1,bY (h2 true (i+1) (.inl rfl))⟩
  | false=>rw[Ee];exact xUy L p h1 h2 r (i+1) (M+1) e2 (by simp at hN;omega)
def xPw (T:Nat) (L:List Rel) (i j k:Nat) (d:List Int):Bool:=(List.range' 0 T).any λv=>lfB L i k (d.getD 0 0) (v:Int) && lfB L k j (v:Int) (d.getD 1 0)
def oBc (T:Nat) (L:List Rel) (i j k:Nat):Prop:=∀ d∈oCy L i j,xPw T L i j k d=true
theorem xFx {N V T:Nat} {L:List Rel} {i j k:Nat} {ρ:Type} (h:C0 T V L) (hV:V<=10) (hi:i<j) (hj:j<V) (hk:k<V) (qa:k≠i) (qc:k≠j) (hN:1100<=N):∀ (l:List (List Int)) (p:Nat) (s:List (List Int)),(∀ d∈l,d.length=2)->s.length+l.length<=1000->
 oM (σ:=List (List Int)) (ρ:=ρ) (λk1 (x1:(List Int)) s1=>oZ (σ:=Bool×Int) (mL (λs=>match s with | (s2,s3)=>oZ (σ:=Bool) (if (decide (s3<(T:Int))) then  some (.nx (!s2)) else  some (.nx false)) λs4=>if s4 then oZ (σ:=Bool) (xG (ix x1 0) λz1=>xG (aD L (i:Int) (k:Int) z1 s3) λz2=>if z2 then  xG (ix x1 1) λz3=>xG (aD L (k:Int) (j:Int) s3 z3) λz4=>some (.nx z4) else  some (.nx false)) λs5=>xG (ck (s3+1)) λz5=>some (.go (s5,z5)) else some (.brk (s2,s3))) N (false,0)) λ(s6,s7)=>if s6 then xG (ap s1 ([x1])) λz6=>some (.go z6) else some (.go s1)) l p s=some (.nx (s++l.filter (xPw T L i j k)))
 | [],p,s,_,_=>by simp [oM]
 | d::l,p,s,hd,hs=>by
  rw[Am] at hs;have hd2:=hd d (by simp);have hT4:=(h.at hi hj).2.t;have h0:ix d 0=some (d.getD 0 0):=iJ (k:=0) (by omega);have h1:ix d 1=some (d.getD 1 0):=iJ (k:=1) (by omega)
  obtain⟨e,he⟩:=xUy (List.range' 0 T) (λv=>lfB L i k (d.getD 0 0) (v:Int) && lfB L k j (v:Int) (d.getD 1 0)) (ρ:=(Ctl ((List (List Int))) ρ)) (b:=λ(s:Bool×Int)=>match s with | (s2,s3)=>oZ (σ:=Bool) (if (decide (s3<(T:Int))) then  some (.nx (!s2)) else  some (.nx false)) λs4=>if s4 then oZ (σ:=Bool) (xG (ix d 0) λz1=>xG (aD L (i:Int) (k:Int) z1 s3) λz2=>if z2 then  xG (ix d 1) λz3=>xG (aD L (k:Int) (j:Int) s3 z3) λz4=>some (.nx z4) else  some (.nx false)) λs5=>xG (ck (s3+1)) λz5=>some (.go (s5,z5)) else some (.brk (s2,s3))) (λq t hq=>by
   have qe:=(Ac.1 hq).1;rw[List.length_range'] at qe
   have ht:t=q:=by
    rw[List.getElem?_range' (by omega)] at hq;have:=Option.some.inj hq
    omega
   subst ht;have l1:=(pB h hV (show i<V by omega) hk (λh=>qa h.symm) (d.getD 0 0) (t:Int) hN).2;have l2:=(pB h hV hk hj qc (t:Int) (d.getD 1 0) hN).2;simp only;rw[if_pos (by simp;omega),thn_nx];simp only[Cl,if_true,h0,h1,bnd_s,l1,l2,zJ (x:=(t:Int)+1) (by omega) (by omega)]
   cases lfB L i k (d.getD 0 0) (t:Int)<;>rfl) (λf q qd=>by
   rw[List.length_range'] at qd
   by_cases hl:((q:Int)<(T:Int))
   ·have hf:f=true:=by
     rcases qd with h | h
     ·exact h
     ·omega
    subst hf
    simp [hl]
   ·simp [hl]) (List.range' 0 T) 0 N rfl (by rw[List.length_range'];omega)
  rw[show(((0:Nat)):Int)=0 from rfl] at he;have ih:=λs' qf=>xFx (ρ:=ρ) h hV hi hj hk qa qc hN l (p+1) s' (λd qg=>hd d (by simp [qg])) qf;rw[Dv];have qh:(List.range' 0 T).any (λv=>lfB L i k (d.getD 0 0) (v:Int) && lfB L k j (v:Int) (d.getD 1 0))=xPw T L i j k d:=rfl;rw[qh] at he
  cases hb:xPw T L i j k d with
  | true=>
   rw[hb] at he;rw[vQ (s':=s++[d]) (by rw[he,thn_nx];simp only[if_true];rw[kX (by simp only[Am,Bi];omega),bnd_s]),ih _ (by rw[Aq,Ak];omega),if_pos rfl,Df]
   rfl
  | false=>
   rw[hb] at he;rw[vQ (s':=s) (by rw[he,thn_nx];rfl),ih _ (by omega),if_neg (by simp)]
theorem xZo {α:Type} {l:List α} {k:Nat} {x:α} (h:l[k]?=some x):l.set k x=l:=by
 apply Cs
 intro a
 by_cases ha:k=a
 ·subst ha
  rw[Al ((Ac.1 h).1),h]
 ·rw[Aj ha]
theorem xTb {N V:Nat} {k:Nat} (h:C0 T V L) (hV:V<=10) (hi:i<j) (hj:j<V) (hk:k<V) (qd:k≠i) (qe:k≠j) (hN:1100<=N) :
 ∃ ch L',mB N (T:Int) L (B2.mk (i:Int) (j:Int) (k:Int))=some (ch,L')/\dO N (T:Int) L (i:Int) (j:Int) (k:Int)=some (ch,L')/\C0 T V L'/\(ch=false->L'=L/\oBc T L i j k)/\(ch=true->xBu L'<xBu L):=by
 obtain⟨h1,h2⟩:=h.at hi hj;obtain⟨e1,e2⟩:=yX hi (show j<10 by omega);have h4:=h2.four;obtain⟨r,hr⟩:∃ r,r=L.getD (tri j+i) default:=⟨_,rfl⟩
 have hp:oCy L i j=r.tuples:=by rw[hr];rfl
 rw[<- hr] at h1 h2 h4;obtain⟨F,hF⟩:∃ F,F=r.tuples.filter (xPw T L i j k):=⟨_,rfl⟩
 have hW:(vH T 2).filter (λd=>xPw T L i j k d && decide (d∈r.tuples))=F:=by
  rw[<- List.filter_filter,<- xLq h2.asc h2.m,hF]
 have hFl:F.length<=r.tuples.length:=by rw[hF];exact Et _ _
 have eI:iQ N (T:Int) 2 (λa0=>lE N a0 L ((tri j+i:Nat):Int) (T:Int) (B2.mk (i:Int) (j:Int) (k:Int)))=some ⟨2,F⟩:=by
  have:=xRm (N:=N) (T:=T) (n:=2) h2.t (by omega) (by omega) (is:=λa0=>lE N a0 L ((tri j+i:Nat):Int) (T:Int) (B2.mk (i:Int) (j:Int) (k:Int))) (λd=>xPw T L i j k d && decide (d∈r.tuples)) (λd hd=>by
   have hl:=(cK.1 hd).1
   unfold lE
   rw[vE h1,bnd_s,xPh h2.asc (by omega) (by omega),bnd_s]
   cases hm:decide (d∈r.tuples) with
   | false=>simp
   | true=>
    rw[if_neg (by simp)];have h0:ix d 0=some (d.getD 0 0):=iJ (k:=0) (by omega);have h9:ix d 1=some (d.getD 1 0):=iJ (k:=1) (by omega);rw[Ad]
    rw[wW (λv=>lfB L i k (d.getD 0 0) (v:Int) && lfB L k j (v:Int) (d.getD 1 0)) true T 0 (λv hv0 hv=>by
     have l1:=(pB h hV (show i<V by omega) hk (λh=>qd h.symm) (d.getD 0 0) (v:Int) hN).1;have l2:=(pB h hV hk hj qe (v:Int) (d.getD 1 0) hN).1;simp only[h0,h9,bnd_s,l1,l2]
     cases lfB L i k (d.getD 0 0) (v:Int)<;>cases lfB L k j (v:Int) (d.getD 1 0)<;>rfl)]
    show oZ (some (if xPw T L i j k d then _ else _)) _=_
    cases xPw T L i j k d<;>rfl)
  rw[hW] at this;exact this
 have qg:C0 T V (L.set (tri j+i) ⟨2,F⟩):=⟨by rw[Cn];exact h.len,λq hq=>by
  rcases Cx hq with hq | rfl
  ·exact h.r q hq
  ·exact⟨h2.t,rfl,by rw[hF];exact h2.asc.filter _,λt ht=>by rw[hF] at ht;exact h2.m t (Cz.1 ht).1⟩⟩
 have qc:=xQf L (tri j+i) r ⟨2,F⟩ h1
 have eS:dO N (T:Int) L (i:Int) (j:Int) (k:Int)=some (decide ((F.length:Int)<(r.tuples.length:Int)),L.set (tri j+i) ⟨2,F⟩):=by
  unfold dO
  rw[e2,bnd_s,vE h1,bnd_s,xFx h hV hi hj hk qd qe hN r.tuples 0 [] (λd hd=>(cK.1 (h2.m d hd)).1) (by simp only[Bi];omega),thn_nx,Bp,<- hF,Ad]
 have eI2:mB N (T:Int) L (B2.mk (i:Int) (j:Int) (k:Int))=if ((F.length:Int)==(r.tuples.length:Int)) then some (false,L) else some (true,L.set (tri j+i) ⟨2,F⟩):=by
  unfold mB
  simp only[e1,bnd_s];rw[eI,bnd_s,vE h1,bnd_s,Ad]
 by_cases hl:F.length=r.tuples.length
 ·have qf:F=r.tuples:=by
   rw[hF];exact List.Sublist.eq_of_length List.filter_sublist (by rw[<- hF];exact hl)
  have qa:L.set (tri j+i) ⟨2,F⟩=L:=by
   refine xZo ?_;rw[h1,qf,<- h2.ar]
  refine⟨false,L,?_,?_,h,λ_=>⟨rfl,λd hd=>?_⟩,λh=>nomatch h⟩
  ·rw[eI2,if_pos (by simp;omega)]
  ·rw[eS,qa,decide_eq_false (by omega)]
  ·rw[hp,<- qf,hF] at hd
   exact(Cz.1 hd).2
 ·refine⟨true,_,?_,?_,qg,λh=>(nomatch h),λ_=>?_⟩
  ·rw[eI2,if_neg (by simp;omega)]
  ·rw[eS,decide_eq_true (by omega)]
  ·simp only at qc
   omega
end
section
structure QInv (U V B T:Nat) (D:Nat->Nat->Nat->Prop) (s:List B2×Bool×List Rel):Prop where
  ok:C0 U V s.2.2
  sum:s.1.length+xBu s.2.2<=T
  ge:B<=s.1.length
  yes:s.2.1=true->B<s.1.length
  no:s.2.1=false->s.1.length=B
  con:s.2.1=false->∀ i j k,i<j->j<V->k<V->k≠i->k≠j->D i j k->oBc U s.2.2 i j k
theorem QInv.mono {U V B T:Nat} {D D':Nat->Nat->Nat->Prop} {s:List B2×Bool×List Rel} (h:QInv U V B T D s) (hd:∀ i j k,i<j->j<V->k<V->k≠i->k≠j->D' i j k->D i j k):QInv U V B T D' s:= ⟨h.ok,h.sum,h.ge,h.yes,h.no,λhf i j k h1 h2 h3 h4 h5 h6=>h.con hf i j k h1 h2 h3 h4 h5 (hd i j k h1 h2 h3 h4 h5 h6)⟩
theorem xYf {N U V B T:Nat} {u:A6} {ρ ρ':Type} (hu:u.size=(U:Int)) (hV:1<=V/\V<=10) (hT:T<=1000) (hN:1100<=N) {s:List B2×Bool×List Rel} (I:QInv U V B T (λ_ _ _=>False) s) :
 cG (qM (σ:=(List B2)×Bool×(List Rel)) (ρ:=ρ) (λk1 s=>match s with | (s1,s2,s3)=>oZ (σ:=(List B2)×Bool×(List Rel)) (qM (λk2 s=>match s with | (s4,s5,s6)=>oZ (σ:=(List B2)×Bool×(List Rel)) (qM (λk3 s=>match s with | (s7,s8,s9)=>oZ (σ:=(List Rel)×Bool) (if ((k3:Int) != (k2:Int)) then  if ((k3:Int) != (k1:Int)) then  xG (mB N u.size s9 (B2.mk (k2:Int) (k1:Int) (k3:Int))) λz1=>some (.nx (z1.2,z1.1)) else  some (.nx (s9,false)) else  some (.nx (s9,false))) λ(s10,s11)=>if s11 then xG (ap s7 ([(B2.mk (k2:Int) (k1:Int) (k3:Int))])) λz2=>some (.go (z2,true,s10)) else some (.go (s7,s8,s10))) ((V:Nat):Int).toNat 0 (s4,s5,s6)) λ(s12,s13,s14)=>some (.go (s12,s13,s14))) (k1:Int).toNat 0 (s1,s2,s3)) λ(s15,s16,s17)=>some (.go (s15,s16,s17))) ((V:Nat):Int).toNat 0 s)
  (qM (σ:=(List B2)×(List Rel)) (ρ:=ρ') (λk4 s=>match s with | (s18,s19)=>oZ (σ:=(List B2)×(List Rel)) (qM (λk5 s=>match s with | (s20,s21)=>oZ (σ:=(List B2)×(List Rel)) (qM (λk6 s=>match s with | (s22,s23)=>oZ (σ:=(List Rel)×Bool) (if ((k6:Int) != (k5:Int)) then  if ((k6:Int) != (1+(k4:Int))) then  xG (dO N u.size s23 (k5:Int) (1+(k4:Int)) (k6:Int)) λz3=>some (.nx (z3.2,z3.1)) else  some (.nx (s23,false)) else  some (.nx (s23,false))) λ(s24,s25)=>if s25 then xG (ap s22 ([(B2.mk (k5:Int) (1+(k4:Int)) (k6:Int))])) λz4=>some (.go (z4,s24)) else some (.go (s22,s24))) ((V:Nat):Int).toNat 0 (s20,s21)) λ(s26,s27)=>some (.go (s26,s27))) (1+(k4:Int)).toNat 0 (s18,s19)) λ(s28,s29)=>some (.go (s28,s29))) (((V:Nat):Int) - 1).toNat 0 (s.1,s.2.2))
  (xVw (λs s'=>s'=(s.1,s.2.2)/\QInv U V B T (λ_ _ _=>True) s) (λ_ _=>False)):=by
 obtain⟨m,rfl⟩:∃ m,V=m+1:=⟨V - 1,by omega⟩;rw[show(((m+1:Nat):Int)).toNat=m+1 by omega,show(((m+1:Nat):Int) - 1).toNat=m by omega];obtain⟨o,c,L⟩:=s;rw[zM (s':=(o,c,L)) (k:=0) rfl];refine cG.mono (cG.forI 1 (λn s s'=>s'=(s.1,s.2.2)/\QInv U (m+1) B T (λi j k=>j<n+1) s) (λ_ _=>False) (k:=0) ⟨rfl,I.mono (λi j k h1 _ _ _ _ h=>by omega)⟩ (λj s s' hj0 hj hR=>?_)) (λa a' h=>?_)
 ·obtain⟨o1,c1,L1⟩:=s
  obtain⟨rfl,I1⟩:=hR
  have qd:(1:Int)+(j:Int)=((j+1:Nat):Int):=by omega
  simp only[qd];rw[show(((j+1:Nat):Int)).toNat=j+1 by omega];refine cG.thn (λs s'=>s'=(s.1,s.2.2)/\QInv U (m+1) B T (λi' j' k=>j'<j+2) s) (λ_ _=>False) (cG.mono (cG.forI 0 (λn s s'=>s'=(s.1,s.2.2)/\QInv U (m+1) B T (λi' j' k=>j'<j+1∨(j'=j+1/\i'<n)) s) (λ_ _=>False) (k:=0) ⟨rfl,I1.mono (λi' j' k h1 _ _ _ _ h=>by omega)⟩ (λi s s' hi0 hi hR=>?_)) (λa a' h=>?_)) (λa a' h=>?_) (λ_ _ h=>h.elim)
  ·obtain⟨o2,c2,L2⟩:=s
   obtain⟨rfl,I2⟩:=hR;simp only[Cb];refine cG.thn (λs s'=>s'=(s.1,s.2.2)/\QInv U (m+1) B T (λi' j' k=>j'<j+1∨(j'=j+1/\i'<i+1)) s) (λ_ _=>False) (cG.mono (cG.forI 0 (λn s s'=>s'=(s.1,s.2.2)/\QInv U (m+1) B T (λi' j' k=>j'<j+1∨(j'=j+1/\(i'<i∨i'=i/\k<n))) s) (λ_ _=>False) (k:=0) ⟨rfl,I2.mono (λi' j' k h1 _ _ _ _ h=>by omega)⟩ (λk s s' hk0 hk hR=>?_)) (λa a' h=>?_)) (λa a' h=>?_) (λ_ _ h=>h.elim)
   ·obtain⟨o3,c3,L3⟩:=s
    obtain⟨rfl,I3⟩:=hR;simp only[Cb,hu]
    by_cases qa:k=i
    ·have h1:((k:Int) != (i:Int))=false:=by simp [qa]
     simp only[h1,Af,if_false,thn_nx];refine cG.s ⟨rfl,I3.mono (λi' j' k' h1 h2 h3 h4 h5 h=>by omega)⟩
    ·have h1:((k:Int) != (i:Int))=true:=by simp;omega
     by_cases qc:k=j+1
     ·have h2:((k:Int) != ((j+1:Nat):Int))=false:=by simp [qc]
      simp only[h1,h2,Af,if_false,if_true,thn_nx];refine cG.s ⟨rfl,I3.mono (λi' j' k' h1 h2 h3 h4 h5 h=>by omega)⟩
     ·have h2:((k:Int) != ((j+1:Nat):Int))=true:=by rw[bne_iff_ne];omega
      obtain⟨ch,L',n1,n2,n3,n4,n5⟩:=xTb (N:=N) I3.ok hV.2 (show i<j+1 by omega) (by omega) (show k<m+1 by omega) qa qc hN;have hs:=I3.sum;have hg:=I3.ge;simp only at hs hg n4 n5;simp only[h1,h2,if_true,n1,n2,bnd_s,thn_nx]
      cases ch with
      | false=>
       obtain⟨rfl,hc⟩:=n4 rfl;simp only[Af,if_false];refine cG.s ⟨rfl,I3.ok,I3.sum,I3.ge,I3.yes,I3.no,λhf i' j' k' h1 h2 h3 h4 h5 h=>?_⟩
       by_cases he:i'=i/\j'=j+1/\k'=k
       ·obtain⟨rfl,rfl,rfl⟩:=he
        exact hc
       ·exact I3.con hf i' j' k' h1 h2 h3 h4 h5 (by omega)
      | true=>
       have ht:=n5 rfl;simp only[if_true];rw[kX (by simp only[Am,Bi];omega),bnd_s,bnd_s];refine cG.s ⟨rfl,n3,?_,?_,λ_=>?_,λh=>(nomatch h),λh=>(nomatch h)⟩
       ·show(o3++[_]).length+xBu L'<=T
        rw[Aq,Ak];omega
       ·show B<=(o3++[_]).length
        rw[Aq,Ak];omega
       ·show B<(o3++[_]).length
        rw[Aq,Ak];omega
   ·cases a<;>cases a'<;>first | exact⟨h.1,h.2.mono (λi' j' k' h1 h2 h3 h4 h5 h=>by omega)⟩ | exact h
   ·obtain⟨o3,c3,L3⟩:=a
    obtain⟨rfl,h⟩:=h;exact cG.s ⟨rfl,h⟩
  ·cases a<;>cases a'<;>first | exact⟨h.1,h.2.mono (λi' j' k' h1 h2 h3 h4 h5 h=>by omega)⟩ | exact h
  ·obtain⟨o3,c3,L3⟩:=a
   obtain⟨rfl,h⟩:=h;exact cG.s ⟨rfl,h⟩
 ·cases a<;>cases a'<;>first | exact⟨h.1,h.2.mono (λi' j' k' h1 h2 h3 h4 h5 h=>by omega)⟩ | exact h
def xPx (U V:Nat) (L:List Rel):Prop:=∀ i j k,i<j->j<V->k<V->k≠i->k≠j->oBc U L i j k
theorem xMd {N U V:Nat} {u:A6} {y:A7} (hu:TV U u) (hy:y.cons.length<=24) (hC:∀ c∈y.cons,CV u y.vars c) (hV:y.vars=V) (qc:1<=V/\V<=10) (hN:1100<=N) :
 ∃ L0 L out,lA N u y=some L0/\iA N u y=some (L,out)/\jZ N u y L0=some (out,L)/\C0 U V L/\xPx U V L:=by
 obtain⟨L0,L0',f1,f2,rfl,qd⟩:=xWp (N:=N) hu hy hC hV qc (by omega);have hT0:=xTz L0 qd.r;have htr:=xTc qc.2;have hlen:=qd.len;obtain⟨T,qe⟩:∃ T,T=xBu L0:=⟨_,rfl⟩
 have key:cG (iA N u y) (jZ N u y L0) (λr r'=>r'=(r.2,r.1)/\C0 U V r.1/\xPx U V r.1):=by
  unfold iA jZ
  have f1':fF N (A6.mk u.size u.rels) (A7.mk y.vars y.cons)=some L0:=f1;rw[f1',bnd_s,hV];refine cG.thn (λt t'=>t'.1=t.1/\t'.2.2=t.2.2/\C0 U V t.2.2/\xPx U V t.2.2) (λr r'=>False) (cG.whl (λs s'=>∃ bf:Int,s'=(s.1,bf,s.2.2)/\(s.2.1=true↔bf≠(s.1.length:Int))/\C0 U V s.2.2/\s.1.length+xBu s.2.2<=T/\(s.2.1=false->xPx U V s.2.2)) _ _ (λs=>xBu s.2.2+(if s.2.1 then 1 else 0)) ?_ ⟨-1,rfl,⟨λ_=>by simp,λ_=>rfl⟩,qd,by simp [qe],λh=>nomatch h⟩ (λs s' hR=>?_)) (λt t' h=>?_) (λr r' h=>h.elim)
  ·simp only[if_true];omega
  ·obtain⟨out,ch,L⟩:=s
   obtain⟨bf,rfl,hb,ok,hs,hp⟩:=hR;simp only at hb ok hs hp ⊢
   cases ch with
   | false=>
    have qf:bf=(out.length:Int):=by
     by_cases h:bf=(out.length:Int)
     ·exact h
     ·exact absurd (hb.2 h) (by simp)
    rw[if_neg (by simp),if_neg (by simp [qf])];exact cG.s ⟨rfl,rfl,ok,hp rfl⟩
   | true=>
    rw[if_pos rfl,if_pos (by simpa using hb.1 rfl)];have qg:=xYf (N:=N) (V:=V) (B:=out.length) (T:=out.length+xBu L) (u:=u) (ρ:=(Ctl ((List B2)×Bool×(List Rel)) ((List Rel)×(List B2)))) (ρ':=(Ctl ((List B2)×Int×(List Rel)) ((List B2)×(List Rel)))) hu.s qc (by omega) hN (s:=(out,false,L)) ⟨ok,Az _,Az _,(λh=>nomatch h),λ_=>rfl,λ_ _ _ _ _ _ _ _ _ h=>h.elim⟩;refine cG.thn (λs s'=>s'=(s.1,s.2.2)/\QInv U V out.length (out.length+xBu L) (λ_ _ _=>True) s) (λr r'=>False) qg (λa b h=>?_) (λr r' h=>h.elim);obtain⟨o3,c3,L3⟩:=a;obtain⟨rfl,h⟩:=h;have h6:=h.sum;have h7:=h.ge;simp only at h h6 h7 ⊢;refine cG.s ⟨⟨(out.length:Int),rfl,?_,h.ok,(show o3.length+xBu L3<=T by omega),λhc=>λi j k h1 h2 h3 h4 h5=>h.con hc i j k h1 h2 h3 h4 h5 trivial⟩,?_⟩
    ·constructor
     ·intro hc;have:=h.yes hc;show(out.length:Int)≠(o3.length:Int);simp only at this;omega
     ·intro hc
      change (out.length:Int)≠(o3.length:Int) at hc
      cases qa:c3 with
      | true=>rfl
      | false=>have:=h.no qa;simp only at this;exact absurd (by omega) hc
    ·cases qa:c3 with
     | true=>have:=h.yes qa;simp only at this;simp only[if_true];omega
     | false=>have:=h.no qa;simp only at this;simp only[Af,if_false,if_true];omega
  ·obtain⟨h1,h2,h3,h4⟩:=h
   obtain⟨o,c,d⟩:=t;obtain⟨o',c',d'⟩:=t';simp only at h1 h2 h3 h4 ⊢;subst h1 h2;exact cG.s ⟨rfl,h3,h4⟩
 obtain⟨r,r',k1,k2,rfl,k3,k4⟩:=key;exact⟨L0,r.1,r.2,f2,k1,k2,k3,k4⟩
end
section
theorem xSg {ρ:Type} {r:ρ} {V:Nat} (p:Nat->Bool) {b:Int->Option (Ctl Int ρ)} (h1:∀ q:Nat,1<=q->q<V->b (q:Int)=some (if p q then .go ((q+1:Nat):Int) else .ret r)) (h2:b (V:Int)=some (.brk (V:Int))):∀ (m q N:Nat),q+m=V->1<=q->m<N->mL b N (q:Int)=some (if (List.range' q m).all p then .nx (V:Int) else .ret r)
 | 0,q,N,h,hq,hN=>by
  obtain⟨M,rfl⟩:∃ M,N=M+1:=⟨N - 1,by omega⟩
  obtain rfl:q=V:=by omega
  rw[bY h2];rfl
 | m+1,q,N,h,hq,hN=>by
  obtain⟨M,rfl⟩:∃ M,N=M+1:=⟨N - 1,by omega⟩;have h0:=h1 q hq (by omega);rw[Ds,List.all_cons]
  cases hp:p q with
  | true=>
   rw[hp] at h0;rw[eT h0,xSg p h1 h2 m (q+1) M (by omega) (by omega) (by omega),Db]
  | false=>rw[hp] at h0;rw[wP h0];rfl
theorem xUo {ρ:Type} (p:Nat->Bool) {b:Nat->Bool->Option (Ctl Bool ρ)} (h:∀ k s,b k s=some (.go (s || p k))):∀ (m k:Nat) (s:Bool),qM b m k s=some (.nx (s || (List.range' k m).any p))
 | 0,k,s=>by simp [qM]
 | m+1,k,s=>by rw[zM (h k s),xUo p h m (k+1),Ds,Dx,Bool.or_assoc]
theorem xXs (T:Nat) (p:Int->Bool):(rJ 0 T).any p=(List.range' 0 T).any λv=>p (v:Int):=by
 unfold rJ
 rw[List.any_map,List.range_eq_range']
 congr 1
 funext v
 simp
def xSs (T V:Nat) (L:List Rel) (vals:List Int) (v:Int):Bool:= if vals.length=0 then (List.range' 1 (V - 1)).all λq=>(List.range' 0 T).any λw=>lfB L 0 q v (w:Int) else (List.range' 0 vals.length).all λk=>lfB L k vals.length (vals.getD k 0) v
theorem xQn {N T V:Nat} {L:List Rel} {vals:List Int} (h:C0 T V L) (hT:1<=T/\T<=4) (hV:2<=V/\V<=10) (hl:vals.length<V) (hN:1100<=N) (v:Int) :
    cT N v (vals.length:Int) (T:Int) (V:Int) L vals=some (xSs T V L vals v)/\fT N (T:Int) (V:Int) L vals v=some (xSs T V L vals v):=by
  by_cases h0:vals.length=0
  · obtain rfl:=Bw.1 h0
    have e1:xSs T V L [] v=(List.range' 1 (V - 1)).all λq=>(List.range' 0 T).any λw=>lfB L 0 q v (w:Int):=rfl;rw[e1]
    constructor
    · unfold cT
      rw[if_pos (by rfl),xLm]
      unfold tI
      rw[show(1:Int)=((1:Nat):Int) from rfl,xSg (V:=V) (r:=false) (λq=>(List.range' 0 T).any λw=>lfB L 0 q v (w:Int)) (λq hq qe=>by
        rw[if_pos (by simp;omega),xJb (by omega) (by omega),bnd_s,tC _ (λw=>lfB L 0 q v w) _ (λw=>by
          unfold pT
          have:=(pB h hV.2 (show 0<V by omega) qe (by omega) v w hN).1;rw[show((0:Nat):Int)=0 from rfl] at this
          rw[this,bnd_s]),bnd_s,xXs]
        cases (List.range' 0 T).any λw=>lfB L 0 q v (w:Int) with
        | true=>rw[if_neg (by simp),zJ (by omega) (by omega),bnd_s];rfl
        | false=>rfl) (by rw[if_neg (by simp)]) (V - 1) 1 N (by omega) (Az _) (by omega)]
      cases ((List.range' 1 (V - 1)).all λq=>(List.range' 0 T).any λw=>lfB L 0 q v (w:Int))<;>rfl
    · unfold fT
      rw[show ∀ f:Nat->Int->Unit->Option (Ctl Unit Bool),oM f [] 0 ()=some (.nx ()) from λf=>rfl,thn_nx]
      rw[show(1:Int)=((1:Nat):Int) from rfl,xSg (V:=V) (r:=false) (λq=>(List.range' 0 T).any λw=>lfB L 0 q v (w:Int)) (λq hq qe=>by
        rw[if_pos (by simp;omega),thn_nx,if_pos (by rfl),Ad,xUo (λw=>lfB L 0 q v (w:Int)) (λk s=>by
          have:=(pB h hV.2 (show 0<V by omega) qe (by omega) v (k:Int) hN).2;rw[show((0:Nat):Int)=0 from rfl] at this
          cases s with
          | true=>rfl
          | false=>simp only[Af,if_false,this,bnd_s,thn_nx,Ee]),thn_nx,Ee]
        cases (List.range' 0 T).any λw=>lfB L 0 q v (w:Int) with
        | true=>rw[if_neg (by simp),zJ (by omega) (by omega),bnd_s];rfl
        | false=>rfl) (by rw[if_neg (by simp),thn_nx];rfl) (V - 1) 1 N (by omega) (Az _) (by omega)]
      cases ((List.range' 1 (V - 1)).all λq=>(List.range' 0 T).any λw=>lfB L 0 q v (w:Int))<;>rfl
  · have e1:xSs T V L vals v=(List.range' 0 vals.length).all λk=>lfB L k vals.length (vals.getD k 0) v:=by unfold xSs;rw[if_neg h0]
    rw[e1];have qa:∀ k:Nat,k<vals.length->fV N L (k:Int) (vals.length:Int) (vals.getD k 0) v=some (lfB L k vals.length (vals.getD k 0) v)/\aD L (k:Int) (vals.length:Int) (vals.getD k 0) v=some (lfB L k vals.length (vals.getD k 0) v):=λk hk=>pB h hV.2 (show k<V by omega) hl (by omega) _ v hN;have qc:∀ k x,vals[k]?=some x->vals.getD k 0=x:=λk x hx=>kK hx
    have qd:∀ (n:Nat) (p:Nat->Bool),(if (List.range' 0 n).any (λk=>!p k) then Out.ret false else Out.nx ())=(if (List.range' 0 n).all p then Out.nx () else Out.ret (σ:=Unit) (ρ:=Bool) false):=λn p=>by
      rw[<- Ej]
      cases (List.range' 0 n).all p<;>rfl
    constructor
    · unfold cT
      rw[if_neg (by rw[Cy];omega),Ad,wW (λk=>!lfB L k vals.length (vals.getD k 0) v) false vals.length 0 (λk _ hk=>by
        have hx:vals[k]?=some (vals[k]'(by omega)):=Aa (by omega);have hg:=qc k _ hx;simp only;rw[vE hx,bnd_s,<- hg,(qa k (by omega)).1,bnd_s]
        cases lfB L k vals.length (vals.getD k 0) v<;>rfl),qd]
      cases ((List.range' 0 vals.length).all λk=>lfB L k vals.length (vals.getD k 0) v)<;>rfl
    · unfold fT
      rw[<- pK (f:=λ(k1:Nat) (s:Unit)=>xG (aD L (k1:Int) (vals.length:Int) (vals.getD k1 0) v) λz1=>if (!z1) then some (.ret false) else some (.go ())) vals 0 0 () (λj x s hj=>by
        rw[Bj,qc j x hj])]
      rw[wW (λk=>!lfB L k vals.length (vals.getD k 0) v) false vals.length 0 (λk _ hk=>by
        rw[(qa k (by omega)).2,bnd_s]
        cases lfB L k vals.length (vals.getD k 0) v<;>rfl),qd]
      obtain⟨M,rfl⟩:∃ M,N=M+1:=⟨N - 1,by omega⟩
      cases ((List.range' 0 vals.length).all λk=>lfB L k vals.length (vals.getD k 0) v) with
      | false=>rfl
      | true=>
        rw[if_pos rfl,thn_nx,bY (s':=1) (by
          have:((vals.length:Int)==0)=false:=by rw[Dm];omega
          rw[if_pos (by simp;omega),this,thn_nx];rfl)]
        rfl
end
section
theorem xOa {ρ:Type} {T:Nat} {F:Nat->Bool} {f:Int->Option Bool} (hf:∀ v:Nat,v<T->f (v:Int)=some (F v)) {b:Int->Option (Ctl Int ρ)} (h1:∀ v:Nat,v<T->b (v:Int)=some (if F v then .brk (v:Int) else .go ((v+1:Nat):Int))) (h2:b (T:Int)=some (.brk (T:Int))):∀ (m q N:Nat),q+m=T->m<N->
 ∃ j:Nat,j<=T/\mL b N (q:Int)=some (.nx (j:Int))/\oM (σ:=Unit) (ρ:=Int) (λk1 (x1:Int) s=>match s with | _=>xG (f x1) λz1=>if z1 then some (.ret ((k1:Int))) else some (.go ())) (rJ (q:Int) m) q ()=some (if j<T then .ret (j:Int) else .nx ())
 | 0,q,N,h,hN=>by
  obtain⟨M,rfl⟩:∃ M,N=M+1:=⟨N - 1,by omega⟩
  obtain rfl:q=T:=by omega
  refine⟨q,Az _,bY h2,?_⟩;rw[if_neg (by omega)];rfl
 | m+1,q,N,h,hN=>by
  obtain⟨M,rfl⟩:∃ M,N=M+1:=⟨N - 1,by omega⟩;have h0:=h1 q (by omega);have qa:=hf q (by omega);rw[xGg]
  cases hp:F q with
  | true=>
   rw[hp] at h0 qa;refine⟨q,by omega,bY h0,?_⟩;rw[fP (r:=(q:Int)) (by simp only[qa,bnd_s];rfl),if_pos (by omega)]
  | false=>
   rw[hp] at h0 qa;obtain⟨j,j1,j2,j3⟩:=xOa hf h1 h2 m (q+1) M (by omega) (by omega);refine⟨j,j1,by rw[eT h0];exact j2,?_⟩;rw[vQ (s':=()) (by simp only[qa,bnd_s];rfl)];rw[show(q:Int)+1=((q+1:Nat):Int) by omega];exact j3
theorem xSo {N T V:Nat} {L:List Rel} (h:C0 T V L) (hT:1<=T/\T<=4) (hV:2<=V/\V<=10) (hN:1100<=N):∃ r,sA N (T:Int) (V:Int) L=some r/\mF N (T:Int) (V:Int) L=some r:=by
 unfold sA mF
 rw[Ad]
 have key:∀ (m k:Nat) (vals:List Int),vals.length=k->k+m=V->∃ o:Out (List Int) ((List Int)×Bool),
  qM (σ:=List Int) (ρ:=(List Int)×Bool) (λk1 s1=>xG (pL 0 (T:Int)) λz1=>xG (qA z1 (λa0=>cT N a0 (k1:Int) (T:Int) (V:Int) L s1)) λz2=>if (decide (z2<0)) then some (.ret ([],false)) else xG (ap s1 ([z2])) λz3=>some (.go z3)) m k vals=some o ∧
  qM (σ:=List Int) (ρ:=(List Int)×Bool) (λk2 s2=>oZ (σ:=Int) (mL (λs3=>oZ (σ:=Bool) (if (decide (s3<(T:Int))) then  xG (fT N (T:Int) (V:Int) L s2 s3) λz4=>some (.nx (!z4)) else  some (.nx false)) λs4=>if s4 then xG (ck (s3+1)) λz5=>some (.go z5) else some (.brk s3)) N 0) λs5=>if (s5==(T:Int)) then some (.ret ([],false)) else xG (ap s2 ([s5])) λz6=>some (.go z6)) m k vals=some o:=by
  intro m
  induction m with
  | zero=>intro k vals _ _;exact⟨.nx vals,rfl,rfl⟩
  | succ m ih=>
   intro k vals hk hkm
   obtain⟨j,j1,j2,j3⟩:=xOa (ρ:=(Ctl ((List Int)) ((List Int)×Bool))) (T:=T) (F:=λv=>xSs T V L vals (v:Int)) (f:=λa0=>cT N a0 (k:Int) (T:Int) (V:Int) L vals) (λv _=>by
    have:=(xQn (vals:=vals) h hT hV (by omega) hN (v:Int)).1;rw[hk] at this;exact this) (b:=λ(s3:Int)=>oZ (σ:=Bool) (if (decide (s3<(T:Int))) then  xG (fT N (T:Int) (V:Int) L vals s3) λz4=>some (.nx (!z4)) else  some (.nx false)) λs4=>if s4 then xG (ck (s3+1)) λz5=>some (.go z5) else some (.brk s3)) (λv hv=>by
    rw[if_pos (by simp;omega),(xQn (vals:=vals) h hT hV (by omega) hN (v:Int)).2,bnd_s,thn_nx]
    cases xSs T V L vals (v:Int) with
    | true=>rfl
    | false=>
     simp only[Cl,if_true];rw[zJ (by omega) (by omega),bnd_s]
     rfl) (by rw[if_neg (by simp),thn_nx];rfl) T 0 N (by omega) (by omega)
   have qa:qA (rJ 0 T) (λa0=>cT N a0 (k:Int) (T:Int) (V:Int) L vals)=some (if j<T then (j:Int) else -1):=by
    unfold qA
    rw[show((0:Nat):Int)=0 from rfl] at j3;rw[j3]
    split<;>rfl
   by_cases hj:j<T
   ·rw[if_pos hj] at qa
    have qc:ap vals [(j:Int)]=some (vals++[(j:Int)]):=kX (by simp only[Ak];omega);obtain⟨o,o1,o2⟩:=ih (k+1) (vals++[(j:Int)]) (by simp [hk]) (by omega);refine⟨o,?_,?_⟩
    ·rw[zM (s':=vals++[(j:Int)]) (by rw[xJb (by omega) (by omega),bnd_s,qa,bnd_s,if_neg (by simp),qc,bnd_s])]
     exact o1
    ·rw[zM (s':=vals++[(j:Int)]) (by
      rw[show((0:Nat):Int)=0 from rfl] at j2
      rw[j2,thn_nx,if_neg (by rw[Cy];omega),qc,bnd_s])]
     exact o2
   ·rw[if_neg hj] at qa
    obtain rfl:j=T:=by omega
    refine⟨.ret ([],false),?_,?_⟩
    ·rw[mR (r:=([],false)) (by rw[xJb (by omega) (by omega),bnd_s,qa,bnd_s];rfl)]
    ·rw[mR (r:=([],false)) (by
      rw[show((0:Nat):Int)=0 from rfl] at j2
      rw[j2,thn_nx,if_pos (by simp)])]
 obtain⟨o,o1,o2⟩:=key V 0 [] rfl (by omega);rw[o1,o2]
 cases o with
 | nx s=>exact⟨_,rfl,rfl⟩
 | ret r=>exact⟨_,rfl,rfl⟩
theorem oEq (L:List Rel):pV L=some (L.any λr=>(r.tuples.length:Int)==0):=by
 unfold pV
 have:∀ (l:List Rel) (k:Nat),oZ (oM (σ:=Unit) (ρ:=Bool) (λk1 (x1:Rel) s=>match s with | _=>if ((x1.tuples.length:Int)==0) then some (.ret true) else some (.go ())) l k ()) (λ_=>some false)=some (l.any λr=>(r.tuples.length:Int)==0):=by
  intro l
  induction l with
  | nil=>intro k;rfl
  | cons d l ih=>
   intro k
   by_cases h:((d.tuples.length:Int)==0)=true
   ·rw[fP (r:=true) (by simp only[h,if_true])]
    simp [h,oZ]
   ·rw[vQ (s':=()) (by simp only[h];rfl),ih (k+1)]
    have h':((d.tuples.length:Int)==0)=false:=by simpa using h
    rw[Dx,h',Ee]
 exact this L 0
theorem oBn {N T m:Nat} {t:A6} {x:A7} {o:Op} (ht:nF t) (hi:sU t x=true) (hu:TV T t) (ho:B9 T o m) (hN:1100<=N):∃ r,dF N t x o=some r/\dK N t x o=some r:=by
 have qa:=hu.t;obtain⟨e,e1,e2,e3⟩:=xNx (N:=N) (k:=7) ht hi ho (.inr rfl) hu hN
 unfold dF dK
 rw[show A6.mk t.size t.rels=t from rfl,show A7.mk x.vars x.cons=x from rfl,show Op.mk o.arity o.table=o from rfl,e1,e2,bnd_s,bnd_s]
 by_cases h0:e=0
 ·subst h0
  obtain⟨hv,hy,hC⟩:=xIw hi;simp only[show((0:Int) != 0)=false from rfl,Af,if_false]
  by_cases h1:x.vars=1
  ·obtain⟨r,a1,a2,a3,a4,a5,a6⟩:=xNn hu hv hC hN
   have g:=xSd r.2
   have hb:(x.vars==1)=true:=by simp [h1]
   simp only[hb,if_true];rw[xNi hu hv,xNd hu hv,bnd_s,bnd_s,a1,a2,bnd_s,bnd_s,g.2,bnd_s]
   obtain⟨d,hd⟩:∃ d,r.2=[d]:=by
    rw[h1] at a3
    match hr:r.2 with
    | []=>rw[hr] at a3;cases a3
    | [d]=>exact⟨d,rfl⟩
    | _::_::_=>rw[hr] at a3;simp at a3
   rw[hd,show ix [d] 0=some d from rfl,bnd_s,bnd_s]
   match d with
   | []=>exact⟨_,rfl,rfl⟩
   | a::d=>
    have hs:sl (a::d) 0 1=some [a]:=by
     unfold sl
     rw[if_pos ⟨by omega,by omega,by simp only[Am];omega⟩]
     simp
    have hz:(((a::d).length:Int)==0)=false:=by rw[Dm,Am];omega
    rw[if_neg (by rw[hz];simp),hs,bnd_s,Dx,hz,List.any_nil,if_neg (by simp),show ix (a::d) 0=some a from rfl,bnd_s];exact⟨_,rfl,rfl⟩
  ·obtain⟨V,hV⟩:∃ V:Nat,x.vars=(V:Int):=⟨x.vars.toNat,by omega⟩
   obtain⟨L0,L,out,p1,p2,p3,p4,p5⟩:=xMd (N:=N) hu hy hC hV (by omega) hN
   have hb:(x.vars==1)=false:=by simp [h1]
   simp only[hb,Af,if_false];rw[p1,p2,bnd_s,bnd_s,p3,bnd_s];rw[tF L (λr=>(r.tuples.length:Int)==0) (λa0=>mP a0) (λr _=>rfl),bnd_s,oEq,bnd_s]
   by_cases hn:(L.any λr=>(r.tuples.length:Int)==0)=true
   ·rw[if_pos hn,if_pos hn];exact⟨_,rfl,rfl⟩
   ·obtain⟨r,g1,g2⟩:=xSo (N:=N) p4 qa (by omega) hN
    rw[if_neg hn,if_neg hn,hu.s,hV,g1,g2,bnd_s]
    cases (!r.2)<;>exact⟨_,rfl,rfl⟩
 ·rw[if_pos (by simp [h0]),if_pos (by simp [h0])]
  exact⟨_,rfl,rfl⟩
end
section
variable {T:Nat}
def xSn (T:Nat) (l:List Int):Int:=(l.getD 0 0 - l.getD 1 0+l.getD 2 0+T).tmod T
def xIh (T:Nat):Op:=⟨3,(List.range' 0 (T ^ 3)).map λk=>xSn T (dig T 3 k)⟩
def oKh (l:List Int) (T:Int):Option Int:= xG (ix l 0) λz1=>xG (ix l 1) λz2=>xG (ck (z1 - z2)) λz3=>xG (ix l 2) λz4=>xG (ck (z3+z4)) λz5=>xG (kF z5 T) λz6=>some z6
set_option synthInstance.maxHeartbeats 400000 in
set_option synthInstance.maxSize 1000 in
theorem oFv:∀ T:Nat,T<5->∀ k:Nat,k<T ^ 3->1<=T->nU (dig T 3 k) (T:Int)=some (xSn T (dig T 3 k))/\oKh (dig T 3 k) (T:Int)=some (xSn T (dig T 3 k))/\0<=xSn T (dig T 3 k)/\xSn T (dig T 3 k)<(T:Int):=by decide +kernel
theorem oIs (qa:1<=T/\T<=4):B9 T (xIh T) 3:=by
 refine⟨rfl,by omega,by omega,?_,?_⟩
 ·unfold xIh;simp
 ·intro a ha
  unfold xIh at ha
  simp only[Cv,List.mem_range'_1] at ha;obtain⟨k,hk,rfl⟩:=ha;exact(oFv T (by omega) k (by omega) qa.1).2.2
theorem cub:∀ T:Nat,T<5->ck ((T:Int)*(T:Int))=some ((T*T:Nat):Int)/\ck (((T*T:Nat):Int)*(T:Int))=some ((T ^ 3:Nat):Int)/\T ^ 3<=64:=by decide +kernel
theorem xRt {N:Nat} (qa:1<=T/\T<=4) (hN:10<=N):gK N (T:Int)=some (xIh T):=by
 have hc:=cub T (by omega);have hp:vA (T:Int) 3=some ((T ^ 3:Nat):Int):=(tD (N:=N) qa (n:=3) (by omega) hN).1
 unfold gK tM
 rw[hp,bnd_s,Ad]
 rw[sE (n:=T ^ 3) (λk=>xSn T (dig T 3 k)) (λi s hi hs=>by
  have hd:qQ N (T:Int) 3 (i:Int)=some (dig T 3 i):=(uG (N:=N) qa (m:=3) (by omega) hi hN).1;rw[hd,bnd_s];simp only
  rw[(oFv T (by omega) i hi qa.1).1,bnd_s,kX (by simp only[Ak];omega),bnd_s]) (T ^ 3) 0 [] rfl (by omega)]
 rfl
theorem xQu {N:Nat} (qa:1<=T/\T<=4) (hN:10<=N):eU N (T:Int)=some (xIh T):=by
 have hc:=cub T (by omega)
 unfold eU
 rw[hc.1,bnd_s,hc.2.1,bnd_s,Ad]
 rw[sE (n:=T ^ 3) (λk=>xSn T (dig T 3 k)) (λi s hi hs=>by
  have hd:qQ N (T:Int) 3 (i:Int)=some (dig T 3 i):=(uG (N:=N) qa (m:=3) (by omega) hi hN).1;have ha:=(oFv T (by omega) i hi qa.1).2.1;rw[rV,hd,bnd_s]
  unfold oKh at ha
  have key:∀ (l:List Int) (T v:Int) (s:List Int),s.length<=1000->(xG (ix l 0) λz1=>xG (ix l 1) λz2=>xG (ck (z1 - z2)) λz3=>xG (ix l 2) λz4=>xG (ck (z3+z4)) λz5=>xG (kF z5 T) λz6=>some z6)=some v->(xG (ix l 0) λz1=>xG (ix l 1) λz2=>xG (ck (z1 - z2)) λz3=>xG (ix l 2) λz4=>xG (ck (z3+z4)) λz5=>xG (kF z5 T) λz6=>xG (ap s ([z6])) λz7=>some (.go z7))=some (Ctl.go (ρ:=Op) (s++[v])):=by
   intro l T v s hs h;obtain⟨a,ea,h⟩:=bU h;obtain⟨b,eb,h⟩:=bU h;obtain⟨c,ec,h⟩:=bU h;obtain⟨d,ed,h⟩:=bU h;obtain⟨e,ee,h⟩:=bU h;obtain⟨f,ef,h⟩:=bU h
   cases h
   rw[ea,bnd_s,eb,bnd_s,ec,bnd_s,ed,bnd_s,ee,bnd_s,ef,bnd_s,kX (by simp only[Ak];omega),bnd_s]
  exact key _ _ _ s (by omega) ha) (T ^ 3) 0 [] rfl (by omega)]
 rfl
def yH (N T:Nat) (r:Rel):Bool:=decide (0<(r.tuples.length:Int)) && gN N T (xIh T) r
theorem xLw {N:Nat} {u:A6} {r:Rel} (hu:TV T u) (hr:r∈u.rels) (hN:10<=N):eF N (T:Int) r=some (yH N T r)/\gI N (T:Int) r=some (yH N T r):=by
 have qa:=hu.t;have hk:=xHd hN hu.t (hu.r r hr) (oIs qa)
 unfold eF gI yH
 rw[xRt qa hN,xQu qa hN]
 by_cases h:0<(r.tuples.length:Int)
 ·simp only[h,decide_true,if_true,bnd_s,Db]
  have e1:dP N (T:Int) (Op.mk (xIh T).arity (xIh T).table) (Rel.mk r.arity r.tuples)=some (gN N T (xIh T) r):=hk.2;have e2:zY N (T:Int) (Op.mk (xIh T).arity (xIh T).table) r=some (gN N T (xIh T) r):=hk.1;rw[e1,e2];exact⟨rfl,rfl⟩
 ·simp only[h,decide_false,Af,if_false,bnd_s,Bool.false_and]
  exact⟨rfl,rfl⟩
theorem pG (s:Int):gA s=some (s==2 || s==3)/\eE s=some (s==2 || s==3):=by
 unfold gA eE
 by_cases h:s=2
 ·subst h;exact⟨rfl,rfl⟩
 ·have h':(s==2)=false:=by simp [h]
  rw[h'];exact⟨rfl,rfl⟩
end
section
theorem xFl {ρ:Type} (f:Int->Int->Int) (A X:Int->Prop) {b:Nat->Int->List Int->Option (Ctl (List Int) ρ)} (hb:∀ k x (s:List Int) a,s[k]?=some a->A a->X x->b k x s=some (.go (s.set k (f a x)))):∀ (m l pre:List Int),l.length=m.length->(∀ a∈l,A a)->(∀ x∈m,X x)->oM b m pre.length (pre++l)=some (.nx (pre++List.zipWith f l m))
 | [],[],pre,_,_,_=>by simp
 | [],_::_,pre,h,_,_=>by simp at h
 | _::_,[],pre,h,_,_=>by simp at h
 | x::m,a::l,pre,h,hA,hX=>by
  rw[vQ (hb pre.length x (pre++a::l) a (by simp) (hA a (Bh ..)) (hX x (Bh ..)))]
  have e:(pre++a::l).set pre.length (f a x)=(pre++[f a x])++l:=by simp
  have ih:=xFl f A X hb m l (pre++[f a x]) (by simpa using h) (λb hb=>hA b (Aw _ hb)) (λy hy=>hX y (Aw _ hy));rw[Aq,Ak] at ih;rw[e,ih]
  simp
def gO (p a:Int):Prop:=0<=a/\a<p
structure C1 (p:Int) (n m:Nat) (r:rowT) (x:A9):Prop where
  num:r.numbers=x.left++[x.right]
  by':r.bys=x.bys
  nl:x.left.length=n
  ml:x.bys.length=m
  lb:∀ a∈x.left,gO p a
  rb:gO p x.right
  bb:∀ a∈x.bys,gO p a
def eP (p t a b:Int):Int:=(a+t*b).tmod p
theorem xOl {p t a b:Int} (hp:1<=p/\p<=3) (ht:0<=t/\t<=5) (ha:gO p a) (hb:gO p b):ck (t*b)=some (t*b)/\ck (a+t*b)=some (a+t*b)/\rm (a+t*b) p=some (eP p t a b)/\gO p (eP p t a b):=by
 have h1:0<=t*b:=Eh ht.1 hb.1;have h2:t*b<=5*3:=Int.mul_le_mul ht.2 (by have:=hb.2;omega) hb.1 (by omega)
 have h3:0<=a+t*b:=by have:=ha.1;omega
 refine⟨zJ (by omega) (by omega),zJ (by omega) (by have:=ha.2;omega),?_,?_⟩
 ·unfold rm eP;rw[if_neg (by omega)]
 ·unfold eP gO
  rw[Cm h3];exact⟨Ev _ (by omega),Ec _ (by omega)⟩
theorem wR {p t:Int} (hp:1<=p/\p<=3) (ht:0<=t/\t<=5):∀ {l m:List Int},(∀ a∈l,gO p a)->(∀ a∈m,gO p a)->∀ a∈List.zipWith (eP p t) l m,gO p a
 | [],_,_,_,a,h=>by simp at h
 | _::_,[],_,_,a,h=>by simp at h
 | x::l,y::m,hl,hm,a,h=>by
  rw[List.zipWith_cons_cons] at h
  rcases Av.1 h with rfl | h
  ·exact(xOl hp ht (hl x (Bh ..)) (hm y (Bh ..))).2.2.2
  ·exact wR hp ht (λa h=>hl a (Aw _ h)) (λa h=>hm a (Aw _ h)) a h
theorem xCe {l:List Int} (h:l.length<=1000):oH l=some l:=by unfold oH;rw[kX (by simp only[Bi];omega),bnd_s];rfl
theorem xHm {p t:Int} {n m:Nat} {r r':rowT} {x x':A9} (hp:1<=p/\p<=3) (ht:0<=t/\t<=5) (hn:n<=500) (hm:m<=500) (h:C1 p n m r x) (h':C1 p n m r' x') :
 aS r p r' t=some ⟨List.zipWith (eP p t) x.left x'.left++[eP p t x.right x'.right],List.zipWith (eP p t) x.bys x'.bys⟩:=by
 have b1:∀ a∈r.numbers,gO p a:=λa ha=>by
  rw[h.num] at ha
  rcases Ar.1 ha with ha | ha
  ·exact h.lb a ha
  ·rw[Bd.1 ha];exact h.rb
 have b1':∀ a∈r'.numbers,gO p a:=λa ha=>by
  rw[h'.num] at ha
  rcases Ar.1 ha with ha | ha
  ·exact h'.lb a ha
  ·rw[Bd.1 ha];exact h'.rb
 have l1:r.numbers.length=n+1:=by rw[h.num,Aq,Ak,h.nl]
 have l1':r'.numbers.length=n+1:=by rw[h'.num,Aq,Ak,h'.nl]
 have l2:r.bys.length=m:=by rw[h.by',h.ml]
 have l2':r'.bys.length=m:=by rw[h'.by',h'.ml]
 unfold aS
 rw[xCe (by omega),bnd_s,xCe (by omega),bnd_s]
 have key:∀ (ρ:Type) (k:Nat) (y:Int) (s:List Int) (a:Int),s[k]?=some a->gO p a->gO p y->(xG (ix s (k:Int)) λz1=>xG (ck (t*y)) λz2=>xG (ck (z1+z2)) λz3=>xG (rm z3 p) λz4=>some (.go (s.set ((k:Int)).toNat z4)))=some (Ctl.go (ρ:=ρ) (s.set k (eP p t a y))):=by
  intro ρ k y s a hs ha hy;obtain⟨c1,c2,c3,_⟩:=xOl hp ht ha hy;rw[vE hs,bnd_s,c1,bnd_s,c2,bnd_s,c3,bnd_s,Ad]
 have u1:=xFl (ρ:=rowT) (eP p t) (gO p) (gO p) (λk y s a=>key rowT k y s a) r'.numbers r.numbers [] (by omega) b1 b1';rw[Bi,Bp,Bp] at u1;rw[u1,thn_nx];have u2:=xFl (ρ:=rowT) (eP p t) (gO p) (gO p) (λk y s a=>key rowT k y s a) r'.bys r.bys [] (by omega) (by rw[h.by'];exact h.bb) (by rw[h'.by'];exact h'.bb);rw[Bi,Bp,Bp] at u2;rw[u2,thn_nx,h.num,h'.num,h.by',h'.by',List.zipWith_append (by rw[h.nl,h'.nl])]
 rfl
end
section
variable {p:Int} {z:Int}
def xUl (p z a b:Int):Option Int:=xG (ck (z*b)) λz1=>xG (ck (a - z1)) λz2=>xG (kF z2 p) λz3=>some z3
def xPj (p b a:Int):Option Int:=xG (ck (a*b)) λz1=>xG (rm z1 p) λz2=>some z2
set_option synthInstance.maxHeartbeats 400000 in
theorem oKq:∀ p:Nat,p<4->∀ z:Nat,z<p->∀ a:Nat,a<p->∀ b:Nat,b<p->xUl p z a b=some (eP p (p - z) a b):=by decide +kernel
theorem oGt:∀ p:Nat,p<4->∀ z:Nat,z<p->∀ a:Nat,a<p->1<=z->xPj p z a=some (eP p (z - 1+p) a a):=by decide +kernel
theorem oKx:∀ p:Nat,p<4->∀ a:Nat,a<p->∀ b:Nat,b<p->eP p p a b=a:=by decide +kernel
theorem gO.nat {a:Int} (h:gO p a):∃ k:Nat,a=(k:Int)/\k<p.toNat:=⟨a.toNat,by have:=h.1;omega,by have:=h.1;have:=h.2;omega⟩
theorem xYt {a b:Int} (hp:1<=p/\p<=3) (hz:gO p z) (ha:gO p a) (hb:gO p b):xUl p z a b=some (eP p (p - z) a b):=by
 obtain⟨z,rfl,qa⟩:=hz.nat;obtain⟨a,rfl,qc⟩:=ha.nat;obtain⟨b,rfl,qd⟩:=hb.nat;have:=oKq p.toNat (by omega) z qa a qc b qd
 rwa [show((p.toNat:Nat):Int)=p by omega] at this
theorem xUz {a:Int} (hp:1<=p/\p<=3) (hz:gO p z) (h1:z≠0) (ha:gO p a):xPj p z a=some (eP p (z - 1+p) a a):=by
 obtain⟨z,rfl,qa⟩:=hz.nat;obtain⟨a,rfl,qc⟩:=ha.nat;have:=oGt p.toNat (by omega) z qa a qc (by omega)
 rwa [show((p.toNat:Nat):Int)=p by omega] at this
theorem xZz {a b:Int} (hp:1<=p/\p<=3) (ha:gO p a) (hb:gO p b):eP p p a b=a:=by
 obtain⟨a,rfl,qa⟩:=ha.nat;obtain⟨b,rfl,qc⟩:=hb.nat;have:=oKx p.toNat (by omega) a qa b qc
 rwa [show((p.toNat:Nat):Int)=p by omega] at this
theorem xKw {p:Int} (hp:1<=p/\p<=3):∀ {l m:List Int},l.length=m.length->(∀ a∈l,gO p a)->(∀ a∈m,gO p a)->List.zipWith (eP p p) l m=l
 | [],[],_,_,_=>rfl
 | [],_::_,h,_,_=>by simp at h
 | _::_,[],h,_,_=>by simp at h
 | x::l,y::m,h,hl,hm=>by
  rw[List.zipWith_cons_cons,xZz hp (hl x (Bh ..)) (hm y (Bh ..)),xKw hp (by simpa using h) (λa h=>hl a (Aw _ h)) (λa h=>hm a (Aw _ h))]
theorem xOg {ρ:Type} (hp:1<=p/\p<=3) (hz:gO p z) {l m:List Int} (hl:l.length=m.length) (hA:∀ a∈l,gO p a) (hB:∀ a∈m,gO p a):qM (σ:=List Int) (ρ:=ρ) (λk s=>xG (ix s (k:Int)) λa=>xG (ix m (k:Int)) λz'=>xG (ck (z*z')) λz1=>xG (ck (a - z1)) λz2=>xG (kF z2 p) λz3=>some (.go (s.set ((k:Int)).toNat z3))) l.length 0 l=some (.nx (List.zipWith (eP p (p - z)) l m)):=by
 rw[hl,pK (g:=λ(k:Nat) (z':Int) (s:(List Int))=>xG (ix s (k:Int)) λa=>xG (ck (z*z')) λz1=>xG (ck (a - z1)) λz2=>xG (kF z2 p) λz3=>some (.go (s.set ((k:Int)).toNat z3))) m 0 0 l (λj x s hj=>by
  rw[Bj,vE hj]
  rfl)]
 have u:=xFl (ρ:=ρ) (eP p (p - z)) (gO p) (gO p) (b:=λ(k:Nat) (z':Int) (s:(List Int))=>xG (ix s (k:Int)) λa=>xG (ck (z*z')) λz1=>xG (ck (a - z1)) λz2=>xG (kF z2 p) λz3=>some (.go (s.set ((k:Int)).toNat z3))) (λk y s a hs ha hy=>by
  have h:=xYt hp hz ha hy
  unfold xUl at h
  obtain⟨c,ec,h⟩:=bU h;obtain⟨d,ed,h⟩:=bU h;obtain⟨e,ee,h⟩:=bU h;simp only[vE hs,bnd_s,ec,ed,ee,Ad]
  rw[Option.some.inj h]) m l [] hl hA hB
 simpa using u
theorem oFb {n m:Nat} {r r':rowT} {x x':A9} (hp:1<=p/\p<=3) (hz:gO p z) (h:C1 p n m r x) (h':C1 p n m r' x') :
 cO x x' z p=some ⟨List.zipWith (eP p (p - z)) x.left x'.left,eP p (p - z) x.right x'.right,List.zipWith (eP p (p - z)) x.bys x'.bys⟩:=by
 unfold cO
 rw[xOg hp hz (by rw[h.nl,h'.nl]) h.lb h'.lb,thn_nx];have hv:=xYt hp hz h.rb h'.rb
 unfold xUl at hv
 obtain⟨c,ec,hv⟩:=bU hv;obtain⟨d,ed,hv⟩:=bU hv;obtain⟨e,ee,hv⟩:=bU hv;simp only[ec,ed,ee,bnd_s];rw[xOg hp hz (by rw[h.ml,h'.ml]) h.bb h'.bb,thn_nx,Option.some.inj hv]
theorem xJx {ρ:Type} (hp:1<=p/\p<=3) (hz:gO p z) (h0:z≠0) {l:List Int} (hA:∀ a∈l,gO p a):qM (σ:=List Int) (ρ:=ρ) (λk s=>xG (ix s (k:Int)) λa=>xG (ck (a*z)) λz1=>xG (rm z1 p) λz2=>some (.go (s.set ((k:Int)).toNat z2))) l.length 0 l=some (.nx (List.zipWith (eP p (z - 1+p)) l l)):=by
 have key:∀ (pre l:List Int),(∀ a∈l,gO p a)->qM (σ:=List Int) (ρ:=ρ) (λk s=>xG (ix s (k:Int)) λa=>xG (ck (a*z)) λz1=>xG (rm z1 p) λz2=>some (.go (s.set ((k:Int)).toNat z2))) l.length pre.length (pre++l)=some (.nx (pre++List.zipWith (eP p (z - 1+p)) l l)):=by
  intro pre l
  induction l generalizing pre with
  | nil=>intro _;simp [qM]
  | cons a l ih=>
   intro hA;have h:=xUz hp hz h0 (hA a (Bh ..))
   unfold xPj at h
   obtain⟨c,ec,h⟩:=bU h;obtain⟨d,ed,h⟩:=bU h
   have hx:(pre++a::l)[pre.length]?=some a:=by simp
   rw[Am,zM (s':=(pre++[eP p (z - 1+p) a a])++l) (by
    simp only[vE hx,bnd_s,ec,ed,Ad];rw[Option.some.inj h]
    simp)]
   have:=ih (pre++[eP p (z - 1+p) a a]) (λb hb=>hA b (Aw _ hb));rw[Aq,Ak] at this;rw[this]
   simp
 have:=key [] l hA
 simpa using this
theorem xZi {n m:Nat} {r:rowT} {x:A9} (hp:1<=p/\p<=3) (hz:gO p z) (h0:z≠0) (h:C1 p n m r x) :
 bS x z p=some ⟨List.zipWith (eP p (z - 1+p)) x.left x.left,eP p (z - 1+p) x.right x.right,List.zipWith (eP p (z - 1+p)) x.bys x.bys⟩:=by
 unfold bS
 rw[xJx hp hz h0 h.lb,thn_nx];have hv:=xUz hp hz h0 h.rb
 unfold xPj at hv
 obtain⟨c,ec,hv⟩:=bU hv;obtain⟨d,ed,hv⟩:=bU hv;simp only[ec,ed,bnd_s];rw[xJx hp hz h0 h.bb,thn_nx,Option.some.inj hv]
end
section
variable {p:Int} {R:List rowT} {X:List A9}
structure C2 (p:Int) (n m:Nat) (R:List rowT) (X:List A9):Prop where
  len:R.length=X.length
  el:∀ (k:Nat) (r:rowT) (x:A9),R[k]?=some r->X[k]?=some x->C1 p n m r x
theorem C2.get {n m k:Nat} (h:C2 p n m R X) (hk:k<R.length):∃ r x,R[k]?=some r/\X[k]?=some x/\C1 p n m r x:=by
 have h1:R[k]?=some (R[k]'hk):=Aa hk;have h2:X[k]?=some (X[k]'(by have:=h.len;omega)):=Aa (by have:=h.len;omega);exact⟨_,_,h1,h2,h.el k _ _ h1 h2⟩
theorem C2.set {n m k:Nat} (h:C2 p n m R X) {r:rowT} {x:A9} (hr:C1 p n m r x):C2 p n m (R.set k r) (X.set k x):=by
 refine⟨by simp [h.len],λj r' x' h1 h2=>?_⟩
 by_cases e:k=j
 ·subst e
  by_cases hk:k<R.length
  ·rw[Al hk] at h1
   rw[Al (by have:=h.len;omega)] at h2
   cases h1;cases h2;exact hr
  ·have:=(Ac.1 h1).1
   simp at this;omega
 ·rw[Aj e] at h1 h2
  exact h.el j r' x' h1 h2
theorem C2.snoc {n m:Nat} (h:C2 p n m R X) {r:rowT} {x:A9} (hr:C1 p n m r x):C2 p n m (R++[r]) (X++[x]):=by
 refine⟨by simp [h.len],λj r' x' h1 h2=>?_⟩
 by_cases hj:j<R.length
 ·rw[Bs hj] at h1
  rw[Bs (by have:=h.len;omega)] at h2;exact h.el j r' x' h1 h2
 ·rw[Bb (by omega)] at h1
  rw[Bb (by have:=h.len;omega),<- h.len] at h2
  have hz:j - R.length=0:=by
   have:=(Ac.1 h1).1
   simp at this;omega
  rw[hz] at h1 h2
  cases h1;cases h2;exact hr
structure SysOk (p:Int) (n m:Nat) (s:B1):Prop where
  pr:s.prime=p
  p3:2<=p/\p<=3
  un:s.unknowns=(n:Int)
  n3:n<=400
  ln:s.list.length=m
  m3:m<=400
  eq:∀ e∈s.list,e.left.length=n/\(∀ a∈e.left,gO p a)/\gO p e.right
theorem xSr {m k:Nat} (hp:2<=p/\p<=3):∀ a∈(List.replicate m (0:Int)).set k 1,gO p a:=by
 intro a ha
 rcases Cx ha with ha | rfl
 ·rw[Ca ha];exact⟨by omega,by omega⟩
 ·exact⟨by omega,by omega⟩
theorem xTh {ρ:Type} {n m:Nat} {s:B1} (h:SysOk p n m s):∃ R X,oM (σ:=List rowT) (ρ:=ρ) (λk1 (x1:A8) s1=>xG (pN (0:Int) (s.list.length:Int)) λz1=>xG (ix z1 (k1:Int)) λz2=>xG (oH x1.left) λz3=>xG (ap z3 ([x1.right])) λz4=>xG (ap s1 ([(rowT.mk z4 (z1.set ((k1:Int)).toNat 1))])) λz5=>some (.go z5)) s.list 0 []=some (.nx R)/\rE s=some X/\C2 p n m R X/\R.length=m/\X.map (λx=>(x.left,x.right))=s.list.map (λe=>(e.left,e.right)):=by
 have hm:=h.m3;have hn:=h.n3
 have hz:pN (0:Int) (s.list.length:Int)=some (List.replicate m 0):=by
  rw[h.ln];unfold pN;rw[if_pos ⟨by omega,by omega⟩,Ad]
 have key:∀ (l:List A8) (i:Nat) (R:List rowT) (X:List A9),(∀ e∈l,e∈s.list)->R.length=i->i+l.length=m->C2 p n m R X->∃ R' X',oM (σ:=List rowT) (ρ:=ρ) (λk1 (x1:A8) s1=>xG (pN (0:Int) (s.list.length:Int)) λz1=>xG (ix z1 (k1:Int)) λz2=>xG (oH x1.left) λz3=>xG (ap z3 ([x1.right])) λz4=>xG (ap s1 ([(rowT.mk z4 (z1.set ((k1:Int)).toNat 1))])) λz5=>some (.go z5)) l i R=some (.nx R')/\oM (σ:=List A9) (ρ:=List A9) (λk2 (x2:A8) s2=>xG (zO x2.left) λz6=>xG (pN (0:Int) (s.list.length:Int)) λz7=>xG (ix z7 (k2:Int)) λz8=>xG (ap s2 ([(A9.mk z6 x2.right (z7.set ((k2:Int)).toNat 1))])) λz9=>some (.go z9)) l i X=some (.nx X')/\C2 p n m R' X'/\R'.length=m/\X'.map (λx=>(x.left,x.right))=X.map (λx=>(x.left,x.right))++l.map (λe=>(e.left,e.right)):=by
  intro l
  induction l with
  | nil=>intro i R X _ hi qc qa;exact⟨R,X,rfl,rfl,qa,by simp at qc;omega,by simp⟩
  | cons e l ih=>
   intro i R X hl hi qc qa;rw[Am] at qc;obtain⟨e1,e2,e3⟩:=h.eq e (hl e (Bh ..));have qe:ix (List.replicate m (0:Int)) (i:Int)=some 0:=vE (by rw[Dg,if_pos (by omega)])
   have qd:zO e.left=some e.left:=by unfold zO;rw[kX (by simp only[Bi];omega),bnd_s];rfl
   have hlen:=qa.len;obtain⟨R',X',q1,q2,q3,q4,q5⟩:=ih (i+1) (R++[⟨e.left++[e.right],(List.replicate m 0).set i 1⟩]) (X++[⟨e.left,e.right,(List.replicate m 0).set i 1⟩]) (λe he=>hl e (Aw _ he)) (by simp [hi]) (by omega) (qa.snoc ⟨rfl,rfl,e1,by simp,e2,e3,xSr h.p3⟩);refine⟨R',X',?_,?_,q3,q4,by rw[q5];simp⟩
   ·rw[vQ (s':=R++[⟨e.left++[e.right],(List.replicate m 0).set i 1⟩]) (by
     simp only[hz,bnd_s,qe,xCe (l:=e.left) (by omega),Ad]
     rw[kX (by simp only[Ak];omega),bnd_s,kX (by simp only[Ak];omega),bnd_s])]
    exact q1
   ·rw[vQ (s':=X++[⟨e.left,e.right,(List.replicate m 0).set i 1⟩]) (by
     simp only[hz,bnd_s,qe,qd,Ad]
     rw[kX (by simp only[Ak];omega),bnd_s])]
    exact q2
 obtain⟨R,X,q1,q2,q3,q4,q5⟩:=key s.list 0 [] [] (λe he=>he) rfl (by have:=h.ln;omega) ⟨rfl,λk r x h=>by simp at h⟩;refine⟨R,X,q1,?_,q3,q4,by simpa using q5⟩
 unfold rE
 rw[q2];rfl
end
section
def lf (X:List A9) (k u:Nat):Int:=((X.getD k ⟨[],0,[]⟩).left).getD u 0
theorem C1.at {p:Int} {n m u:Nat} {r:rowT} {x:A9} (h:C1 p n m r x) (hu:u<n):ix r.numbers (u:Int)=some (x.left.getD u 0)/\ix x.left (u:Int)=some (x.left.getD u 0)/\gO p (x.left.getD u 0):=by
 have hl:=h.nl;have h1:x.left[u]?=some (x.left[u]'(by omega)):=Aa (by omega);have hg:x.left.getD u 0=x.left[u]'(by omega):=kK h1;refine⟨?_,?_,?_⟩
 ·rw[hg]
  refine vE ?_;rw[h.num,Bs (by omega),h1]
 ·rw[hg];exact vE h1
 ·rw[hg];exact h.lb _ (Bn _)
theorem xRc {ρ:Type} {p:Int} {n m u:Nat} {R:List rowT} {X:List A9} (h:C2 p n m R X) (hu:u<n):∀ (d q i:Nat),q+d=R.length->∃ j:Nat,q<=j/\j<=R.length/\(∀ k,q<=k->k<j->lf X k u=0)/\(j<R.length->lf X j u≠0) ∧
 oM (σ:=Unit) (ρ:=Int) (λk3 (x1:rowT) s=>match s with | _=>xG (iB x1 (u:Int)) λz1=>if z1 then some (.ret ((k3:Int))) else some (.go ())) (R.drop q) i ()=some (if j<R.length then .ret ((i+(j - q):Nat):Int) else .nx ()) ∧
 ∀ k0,qM (σ:=Int) (ρ:=ρ) (λk at'=>xG (ix X at') λx=>xG (ix x.left (u:Int)) λz=>if (z==0) then some (.go (at'+1)) else some (.brk at')) d k0 (q:Int)=some (.nx (j:Int))
 | 0,q,i,hq=>by
  refine⟨q,Az _,by omega,λk h1 h2=>by omega,λh=>by omega,?_,λk0=>rfl⟩;rw[Cp (by omega),if_neg (by omega)]
  rfl
 | d+1,q,i,hq=>by
  obtain⟨r,x,h1,h2,h3⟩:=h.get (k:=q) (by omega);obtain⟨a1,a2,_⟩:=h3.at hu
  have qa:lf X q u=x.left.getD u 0:=by
   have:X.getD q ⟨[],0,[]⟩=x:=by rw[Ao,h2];rfl
   unfold lf;rw[this]
  have hd:R.drop q=r::R.drop (q+1):=by
   have qc:q<R.length:=by omega
   rw[Br qc];rw[Aa qc] at h1;rw[Option.some.inj h1]
  by_cases hz:x.left.getD u 0=0
  ·obtain⟨j,j1,j2,j3,j4,j5,j6⟩:=xRc (ρ:=ρ) h hu d (q+1) (i+1) (by omega)
   refine⟨j,by omega,j2,λk k1 k2=>?_,j4,?_,λk0=>?_⟩
   ·by_cases e:k=q
    ·rw[e,qa,hz]
    ·exact j3 k (by omega) k2
   ·rw[hd,vQ (s':=()) (by
     unfold iB
     simp only[a1,bnd_s,hz]
     rfl),j5]
    by_cases hj:j<R.length
    ·rw[if_pos hj,if_pos hj,show i+1+(j - (q+1))=i+(j - q) by omega]
    ·rw[if_neg hj,if_neg hj]
   ·rw[zM (s':=((q+1:Nat):Int)) (by
     simp only[vE h2,bnd_s,a2,hz]
     rfl)]
    exact j6 (k0+1)
  ·refine⟨q,Az _,by omega,λk k1 k2=>by omega,λ_=>by rw[qa];exact hz,?_,λk0=>?_⟩
   ·rw[hd,fP (r:=(i:Int)) (by
     unfold iB
     simp only[a1,bnd_s]
     rw[if_pos (by simpa using hz)]),if_pos (by omega),Ed,Cb]
   ·have qd:(x.left.getD u 0==0)=false:=by rw[Dm];exact hz
    unfold qM
    simp only[vE h2,bnd_s,a2,qd,Af,if_false]
end
section
def cL (p t:Int) (x y:A9):A9:=⟨List.zipWith (eP p t) x.left y.left,eP p t x.right y.right,List.zipWith (eP p t) x.bys y.bys⟩
def xAl (x:A9):rowT:=⟨x.left++[x.right],x.bys⟩
theorem xYd {p z:Int} {n m:Nat} {r r':rowT} {x x':A9} (hp:1<=p/\p<=3) (hz:gO p z) (hn:n<=500) (hm:m<=500) (h:C1 p n m r x) (h':C1 p n m r' x'):aS r p r' (p - z)=some (xAl (cL p (p - z) x x'))/\cO x x' z p=some (cL p (p - z) x x')/\C1 p n m (xAl (cL p (p - z) x x')) (cL p (p - z) x x')/\(z=0->cL p (p - z) x x'=x):=by
 have ht:0<=p - z/\p - z<=5:=by have:=hz.1;have:=hz.2;omega
 refine⟨xHm hp ht hn hm h h',oFb hp hz h h',⟨rfl,rfl,by simp [cL,h.nl,h'.nl],by simp [cL,h.ml,h'.ml],wR hp ht h.lb h'.lb,(xOl hp ht h.rb h'.rb).2.2.2,wR hp ht h.bb h'.bb⟩,λe=>?_⟩;subst e
 unfold cL
 rw[show p - 0=p by omega,xKw hp (by rw[h.nl,h'.nl]) h.lb h'.lb,xKw hp (by rw[h.ml,h'.ml]) h.bb h'.bb,xZz hp h.rb h'.rb]
theorem xJe {ρ ρ':Type} {p:Int} {n m u done:Nat} {R:List rowT} {X:List A9} {xd:A9} (hp:1<=p/\p<=3) (hn:n<=500) (hm:m<=500) (hu:u<n) (hd:X[done]?=some xd):∀ (d i:Nat) (R0 S:List rowT) (Y:List A9),i+d=X.length->R0.length=d->C2 p n m S Y->Y.length=X.length->Y[done]?=some xd->(∀ k,i<=k->Y[k]?=X[k]?)->(∀ k x,k<i->k≠done->X[k]?=some x->Y[k]?=some (cL p (p - x.left.getD u 0) x xd))->
 ∃ S' Y',oM (σ:=List rowT) (ρ:=ρ) (λk1 (x1:rowT) s1=>xG (ix s1 (k1:Int)) λz1=>if ((k1:Int) != (done:Int)) then xG (ix s1 (done:Int)) λz2=>xG (ix z1.numbers (u:Int)) λz3=>xG (ck (p - z3)) λz4=>xG (aS (rowT.mk z1.numbers z1.bys) p z2 z4) λz5=>some (.go (s1.set ((k1:Int)).toNat (rowT.mk z5.numbers z5.bys))) else some (.go s1)) R0 i S=some (.nx S') ∧
  qM (σ:=List A9) (ρ:=ρ') (λi (rows:List A9)=>if ((i:Int) != (done:Int)) then xG (ix rows (i:Int)) λri=>xG (ix ri.left (u:Int)) λzi=>if (zi != 0) then xG (ix rows (done:Int)) λrd=>xG (cO ri rd zi p) λr'=>some (.go (rows.set ((i:Int)).toNat r')) else some (.go rows) else some (.go rows)) d i Y=some (.nx Y')/\C2 p n m S' Y'/\Y'.length=X.length/\Y'[done]?=some xd/\(∀ k x,k≠done->X[k]?=some x->Y'[k]?=some (cL p (p - x.left.getD u 0) x xd))
 | 0,i,[],S,Y,hi,_,hS,hl,hY,_,hk=>⟨S,Y,rfl,rfl,hS,hl,hY,λk x qa hx=>hk k x (by have:=(Ac.1 hx).1;omega) qa hx⟩
 | 0,i,_::_,S,Y,_,h,_,_,_,_,_=>by simp at h
 | d+1,i,[],S,Y,_,h,_,_,_,_,_=>by simp at h
 | d+1,i,r0::R0,S,Y,hi,h0,hS,hl,hY,qc,hk=>by
  have hlen:=hS.len;obtain⟨r,x,h1,h2,h3⟩:=hS.get (k:=i) (by omega)
  have qd:X[i]?=some x:=by rw[<- qc i (Az _)];exact h2
  obtain⟨a1,a2,a3⟩:=h3.at hu
  by_cases e:i=done
  ·have hb:((i:Int) != (done:Int))=false:=by simp [e]
   obtain⟨S',Y',q1,q2,q3⟩:=xJe (ρ:=ρ) (ρ':=ρ') (R:=R) hp hn hm hu hd d (i+1) R0 S Y (by omega) (by simpa using h0) hS hl hY (λk qe=>qc k (by omega)) (λk x' qf qa hx=>hk k x' (by omega) qa hx);refine⟨S',Y',?_,?_,q3⟩
   ·rw[vQ (s':=S) (by simp only[vE h1,bnd_s,hb,Af,if_false])]
    exact q1
   ·rw[zM (s':=Y) (by simp only[hb,Af,if_false])]
    exact q2
  ·have hb:((i:Int) != (done:Int))=true:=by rw[bne_iff_ne];omega
   obtain⟨rd,xd',g1,g2,g3⟩:=hS.get (k:=done) (by have:=(Ac.1 hd).1;omega)
   obtain rfl:xd=xd':=by rw[hY] at g2;exact Option.some.inj g2
   obtain⟨l1,l2,l3,l4⟩:=xYd hp a3 hn hm h3 g3
   obtain⟨S',Y',q1,q2,q3⟩:=xJe (ρ:=ρ) (ρ':=ρ') (R:=R) hp hn hm hu hd d (i+1) R0 (S.set i (xAl (cL p (p - x.left.getD u 0) x xd))) (Y.set i (cL p (p - x.left.getD u 0) x xd)) (by omega) (by simpa using h0) (hS.set l3) (by simp [hl]) (by rw[Aj e];exact hY) (λk qe=>by rw[Aj (by omega)];exact qc k (by omega)) (λk x' qf qa hx=>by
    by_cases ek:i=k
    ·subst ek
     rw[qd] at hx
     cases hx
     rw[Al (by omega)]
    ·rw[Aj ek]
     exact hk k x' (by omega) qa hx)
   refine⟨S',Y',?_,?_,q3⟩
   ·rw[vQ (s':=S.set i (xAl (cL p (p - x.left.getD u 0) x xd))) (by
     simp only[vE h1,bnd_s,hb,if_true,vE g1,a1,zJ (x:=p - x.left.getD u 0) (by have:=a3.1;have:=a3.2;omega) (by have:=a3.1;have:=a3.2;omega)]
     rw[show rowT.mk r.numbers r.bys=r from rfl,l1,bnd_s,Ad])]
    exact q1
   ·rw[zM (s':=Y.set i (cL p (p - x.left.getD u 0) x xd)) (by
     simp only[hb,if_true,vE h2,bnd_s,a2]
     by_cases hz:x.left.getD u 0=0
     ·rw[if_neg (by rw[hz];simp),l4 hz]
      have:Y.set i x=Y:=by
       obtain⟨hk,rfl⟩:=Ac.1 h2;exact List.set_getElem_self hk
      rw[this]
     ·rw[if_pos (by rw[bne_iff_ne];exact hz),vE g2,bnd_s,l2,bnd_s,Ad])]
    exact q2
end
section
variable {p:Int}
theorem xKf (f:Int->Int->Int) {l m:List Int} {v:Nat} (hl:v<l.length) (hm:v<m.length):(List.zipWith f l m).getD v 0=f (l.getD v 0) (m.getD v 0):=by
 refine kK ?_;rw[List.getElem?_zipWith,Aa hl,Aa hm];have h1:l.getD v 0=l[v]:=kK (Aa hl);have h2:m.getD v 0=m[v]:=kK (Aa hm);rw[h1,h2]
theorem xJs {t:Int} {n m v:Nat} {r r':rowT} {x y:A9} (h:C1 p n m r x) (h':C1 p n m r' y) (hv:v<n):(cL p t x y).left.getD v 0=eP p t (x.left.getD v 0) (y.left.getD v 0):=xKf _ (by rw[h.nl];exact hv) (by rw[h'.nl];exact hv)
theorem xVr {t a:Int} (hp:1<=p) (ha:gO p a):eP p t a 0=a:=by
 unfold eP
 rw[Int.mul_zero,Int.add_zero,Cm ha.1,Int.emod_eq_of_lt ha.1 ha.2]
theorem oJz:∀ p:Nat,p<4->∀ z:Nat,z<p->1<=z->eP p (z - 1+p) z z=1:=by decide +kernel
theorem oJc:∀ p:Nat,p<4->∀ z:Nat,z<p->2<=p->eP p (p - z) z 1=0:=by decide +kernel
theorem oHt {z:Int} (hp:1<=p/\p<=3) (hz:gO p z) (h0:z≠0):eP p (z - 1+p) z z=1:=by
 obtain⟨z,rfl,qa⟩:=hz.nat;have:=oJz p.toNat (by omega) z qa (by omega)
 rwa [show((p.toNat:Nat):Int)=p by omega] at this
theorem xXj {z:Int} (hp:2<=p/\p<=3) (hz:gO p z):eP p (p - z) z 1=0:=by
 obtain⟨z,rfl,qa⟩:=hz.nat;have:=oJc p.toNat (by omega) z qa (by omega)
 rwa [show((p.toNat:Nat):Int)=p by omega] at this
end
section
open Go.RowKit
def sm:Nat->(Nat->Int)->Int | 0,_=>0 | n+1,f=>sm n f+f n
theorem tS {f g:Nat->Int}:∀ {n:Nat},(∀ i,i<n->f i=g i)->sm n f=sm n g
 | 0,_=>rfl
 | n+1,h=>by simp only[sm];rw[tS (λi hi=>h i (by omega)),h n (by omega)]
theorem xLd (f g:Nat->Int):∀ n,sm n (λi=>f i+g i)=sm n f+sm n g
 | 0=>rfl
 | n+1=>by simp only[sm,xLd f g n];omega
theorem xJo (a:Int) (f:Nat->Int):∀ n,sm n (λi=>a*f i)=a*sm n f
 | 0=>by simp [sm]
 | n+1=>by simp only[sm,xJo a f n];rw[Int.mul_add]
theorem xCl {f:Nat->Int} {n:Nat} (h:∀ i,i<n->f i=0):sm n f=0:=by
 induction n with
 | zero=>rfl
 | succ n ih=>simp only[sm];rw[ih (λi hi=>h i (by omega)),h n (by omega)];rfl
theorem xTm {f:Nat->Int} {n u:Nat} (hu:u<n) (h:∀ i,i<n->i≠u->f i=0):sm n f=f u:=by
 induction n with
 | zero=>omega
 | succ n ih=>
  simp only[sm]
  by_cases e:u=n
  ·subst e;rw[xCl (λi hi=>h i (by omega) (by omega))];omega
  ·rw[ih (by omega) (λi hi ne=>h i (by omega) ne),h n (by omega) (by omega)];omega
theorem xUq (f:Nat->Nat->Int) (k:Nat):∀ n,sm n (λi=>sm k (f i))=sm k (λj=>sm n (λi=>f i j))
 | 0=>by simp only[sm];exact(xCl (λ_ _=>rfl)).symm
 | n+1=>by simp only[sm];rw[xUq f k n,<- xLd]
theorem oHk {p:Int} {f:Nat->Int} {n:Nat} (h:∀ i,i<n->p ∣ f i):p ∣ sm n f:=by
 induction n with
 | zero=>exact⟨0,by simp [sm]⟩
 | succ n ih=>simp only[sm];exact Int.dvd_add (ih (λi hi=>h i (by omega))) (h n (by omega))
def dl (u c:Nat):Int:=if c=u then 1 else 0
theorem oFo {f:Nat->Int} {n u:Nat} (hu:u<n):sm n (λc=>f c*dl u c)=f u:=by
 rw[xTm hu (λi _ ne=>by simp [dl,ne])];simp [dl]
structure Red (p:Int) (m:Nat) (V:(Nat->Int)->Prop) (k:Nat) (R:Nat->Nat->Int) (b:Nat->Nat):Prop where
  up:∀ i j,i<j->j<k->b i<b j
  lt:∀ i,i<k->b i<m
  v:∀ i,i<k->V (R i)
  rg:∀ i c,i<k->c<m->0<=R i c/\R i c<p
  pv:∀ i j,i<k->j<k->R i (b j)=if i=j then 1 else 0
  ld:∀ i c,i<k->c<b i->R i c=0
  al:∀ x:Nat->Int,(∀ i,i<k->p ∣ sm m (λc=>R i c*x c))->∀ e,V e->p ∣ sm m (λc=>e c*x c)
section
variable {p:Int} {m:Nat} {V:(Nat->Int)->Prop} {k l:Nat} {R S:Nat->Nat->Int} {b q:Nat->Nat}
theorem xZp (h:Red p m V k R b) (e:Nat->Int) (u:Nat) (hu:u<m):sm m (λc=>e c*(dl u c+sm k (λj=>-(R j u)*dl (b j) c)))=e u+sm k (λj=>-(R j u)*e (b j)):=by
 rw[tS (g:=λc=>e c*dl u c+sm k (λj=>-(R j u)*(e c*dl (b j) c))),xLd,oFo hu,xUq]
 ·congr 1
  refine tS (λj hj=>?_);rw[xJo,oFo (h.lt j hj)]
 ·intro c _
  rw[Int.mul_add,<- xJo]
  congr 1
  refine tS (λj _=>?_);rw[Int.mul_left_comm]
theorem Red.sum (h:Red p m V k R b) {e:Nat->Int} (he:V e) {u:Nat} (hu:u<m):p ∣ e u - sm k (λj=>R j u*e (b j)):=by
 have q:=h.al (λc=>dl u c+sm k (λj=>-(R j u)*dl (b j) c)) (λi hi=>by
  rw[xZp h (R i) u hu,xTm (u:=i) hi (λj hj ne=>by rw[h.pv i j hi hj,if_neg (λe=>ne e.symm)];simp),h.pv i i hi hi,if_pos rfl]
  exact⟨0,by omega⟩) e he
 rw[xZp h e u hu] at q
 have r:sm k (λj=>-(R j u)*e (b j))= - sm k (λj=>R j u*e (b j)):=by
  rw[tS (g:=λj=>(-1)*(R j u*e (b j))),xJo]
  ·omega
  ·intro j _;rw[Int.neg_mul];omega
 rw[r] at q
 simpa [Int.sub_eq_add_neg] using q
theorem Red.mem (hp:2<=p) (h:Red p m V k R b) (h':Red p m V l S q) {j:Nat} (hj:j<l):∃ i,i<k/\b i=q j:=by
 refine Classical.byContradiction (λhn=>?_);have d:=h.sum (h'.v j hj) (h'.lt j hj);rw[xCl (λi hi=>?_),h'.pv j j hj hj,if_pos rfl] at d
 ·obtain⟨z,hz⟩:=d
  have:p<=1:=Int.le_of_dvd (by omega) ⟨z,by omega⟩
  omega
 ·by_cases g:b i<q j
  ·rw[h'.ld j _ hj g];simp
  ·by_cases g2:b i=q j
   ·exact absurd ⟨i,hi,g2⟩ hn
   ·rw[h.ld i _ hi (by omega)];simp
theorem oFl {b:Nat->Nat} {k:Nat} (h:∀ i j,i<j->j<k->b i<b j) {i j:Nat} (hi:i<k) (hj:j<k) (e:b i<b j):i<j:=by
 rcases Nat.lt_trichotomy i j with g | g | g
 ·exact g
 ·subst g;omega
 ·have:=h j i g hi;omega
theorem Red.piv (hp:2<=p) (h:Red p m V k R b) (h':Red p m V l S q):∀ i,i<k->i<l/\q i=b i:=by
 intro i
 induction i using Nat.strongRecOn with
 | ind i ih=>
  intro hi;obtain⟨j,hj,e⟩:=h'.mem hp h hi
  rcases Nat.lt_trichotomy i j with g | g | g
  ·obtain⟨t,ht,et⟩:=h.mem hp h' (Nat.lt_trans g hj)
   have u:=h'.up i j g hj;have v:t<i:=oFl h.up ht hi (by omega);have w:=ih t v ht;have:=oFl h'.up (i:=i) (j:=j) (Nat.lt_trans g hj) hj u;have y:=h'.up t i v (Nat.lt_trans g hj)
   omega
  ·subst g;exact⟨hj,e⟩
  ·have w:=ih j g (Nat.lt_trans g hi)
   have:=h.up j i g hi
   omega
theorem Red.uniq (hp:2<=p) (h:Red p m V k R b) (h':Red p m V l S q):k=l/\∀ i,i<k->b i=q i/\∀ c,c<m->R i c=S i c:=by
 have kl:k=l:=by
  have a:=h.piv hp h';have b:=h'.piv hp h
  rcases Nat.lt_trichotomy k l with g | g | g
  ·have:=(b k g).1;omega
  ·exact g
  ·have:=(a l g).1;omega
 refine⟨kl,λi hi=>⟨((h.piv hp h') i hi).2.symm,λc hc=>?_⟩⟩;have d:=h'.sum (h.v i hi) hc;rw[xTm (u:=i) (kl ▸ hi) (λj hj ne=>?_),((h.piv hp h') i hi).2,h.pv i i hi hi,if_pos rfl] at d
 ·obtain⟨z,hz⟩:=d
  have r1:=h.rg i c hi hc;have r2:=h'.rg i c (kl ▸ hi) hc
  have:z=0:=by
   rcases Int.lt_trichotomy z 0 with g | g | g
   ·have:p*z<=p*(-1):=Dn (by omega) (by omega)
    omega
   ·exact g
   ·have:p*1<=p*z:=Dn (by omega) (by omega)
    omega
  subst this
  omega
 ·rw[((h.piv hp h') j (kl ▸ hj)).2,h.pv i j hi (kl ▸ hj),if_neg (λe=>ne e.symm)];simp
end
end
section
variable {p:Int} {x:A9} {t:Int} {Y:List A9} {S:List rowT} {X0:List A9} {pl:List Int}
def xQz:A9:=⟨[],0,[]⟩
def pA (n:Nat) (x:A9) (c:Nat):Int:=if c<n then x.left.getD c 0 else x.right
def rG (n:Nat) (x:A9) (y:Nat->Int):Int:=sm (n+1) (λc=>pA n x c*y c)
theorem xYy (p t a b:Int):p ∣ eP p t a b - (a+t*b):=by
 unfold eP
 rw[Int.tmod_def];exact⟨-((a+t*b).tdiv p),by rw[Int.mul_neg];omega⟩
theorem xWd {n c:Nat} {y:A9} (hx:x.left.length=n) (hy:y.left.length=n):pA n (cL p t x y) c=eP p t (pA n x c) (pA n y c):=by
 unfold pA
 by_cases h:c<n
 ·rw[if_pos h,if_pos h,if_pos h];exact xKf _ (by omega) (by omega)
 ·rw[if_neg h,if_neg h,if_neg h];rfl
theorem xKc {n:Nat} {y:A9} (hx:x.left.length=n) (hy:y.left.length=n) (w:Nat->Int):p ∣ rG n (cL p t x y) w - (rG n x w+t*rG n y w):=by
 have e:rG n (cL p t x y) w=sm (n+1) (λc=>(pA n x c*w c+t*(pA n y c*w c))+(eP p t (pA n x c) (pA n y c) - (pA n x c+t*pA n y c))*w c):=tS (λc _=>by
  rw[xWd hx hy,Int.sub_mul,Int.add_mul,Int.mul_assoc];omega)
 rw[e,xLd,xLd,xJo];have d:p ∣ sm (n+1) (λc=>(eP p t (pA n x c) (pA n y c) - (pA n x c+t*pA n y c))*w c):=oHk (λc _=>Int.dvd_mul_of_dvd_left (xYy ..))
 unfold rG
 rwa [show ∀ a b:Int,a+b - a=b from λa b=>by omega]
theorem xZf {A B D:Int} (h:p ∣ A - (B+t*D)) (hB:p ∣ B) (hD:p ∣ D):p ∣ A:=by
 obtain⟨a,ha⟩:=h;obtain⟨b,rfl⟩:=hB;obtain⟨d,rfl⟩:=hD;refine⟨a+b+t*d,?_⟩;rw[Int.mul_add,Int.mul_add,Int.mul_left_comm p t d]
 omega
theorem oBk {A B D:Int} (h:p ∣ A - (B+t*D)) (hA:p ∣ A) (hD:p ∣ D):p ∣ B:=by
 obtain⟨a,ha⟩:=h;obtain⟨b,rfl⟩:=hA;obtain⟨d,rfl⟩:=hD;refine⟨b - a - t*d,?_⟩;rw[Int.mul_sub,Int.mul_sub,Int.mul_left_comm p t d]
 omega
theorem oAl {z A D:Int} (hp:2<=p/\p<=3) (hz:gO p z) (h0:z≠0) (h:p ∣ A - (D+(z - 1+p)*D)) (hA:p ∣ A):p ∣ D:=by
 obtain⟨h1,h2⟩:=hp;obtain⟨z0,z1⟩:=hz
 have:(p=2/\z=1)∨(p=3/\z=1)∨(p=3/\z=2):=by omega
 rcases this with ⟨rfl,rfl⟩ | ⟨rfl,rfl⟩ | ⟨rfl,rfl⟩<;>omega
theorem xIy (p t:Int):eP p t 0 0=0:=by unfold eP;simp
theorem pF {X:List A9} {k u:Nat} (h:X[k]?=some x):lf X k u=x.left.getD u 0:=by
 have:X.getD k ⟨[],0,[]⟩=x:=by rw[Ao,h];rfl
 unfold lf;rw[this]
theorem gP {X:List A9} {k:Nat} (h:X[k]?=some x):X.getD k xQz=x:=by rw[Ao,h];rfl
structure B8 (p:Int) (n m u:Nat) (X0:List A9) (pl:List Int) (S:List rowT) (Y:List A9):Prop where
  rows:C2 p n m S Y
  len:Y.length=m
  le:pl.length<=m
  low:∀ k v,pl.length<=k->k<m->v<u->lf Y k v=0
  piv:∀ k,k<pl.length->∃ c:Nat,pl[k]?=some (c:Int)/\c<u/\(∀ v,v<c->lf Y k v=0)/\∀ i,i<m->lf Y i c=if i=k then 1 else 0
  up:∀ (i j:Nat) (a b:Int),i<j->pl[i]?=some a->pl[j]?=some b->a<b
  sem:∀ w:Nat->Int,(∀ k,k<m->p ∣ rG n (X0.getD k xQz) w)↔∀ k,k<m->p ∣ rG n (Y.getD k xQz) w
theorem B8.skip {n m u:Nat} (h:B8 p n m u X0 pl S Y) (hz:∀ k,pl.length<=k->k<m->lf Y k u=0):B8 p n m (u+1) X0 pl S Y:=by
 refine⟨h.rows,h.len,h.le,λk v h1 h2 h3=>?_,λk hk=>?_,h.up,h.sem⟩
 ·by_cases e:v=u
  ·rw[e];exact hz k h1 h2
  ·exact h.low k v h1 h2 (by omega)
 ·obtain⟨c,c1,c2,c3,c4⟩:=h.piv k hk
  exact⟨c,c1,by omega,c3,c4⟩
theorem B8.at {n m u:Nat} (h:B8 p n m u X0 pl S Y) {k:Nat} (hk:k<m):∃ r x,Y[k]?=some x/\C1 p n m r x:=by
 obtain⟨r,x,_,h2,h3⟩:=h.rows.get (k:=k) (by have:=h.rows.len;have:=h.len;omega);exact⟨r,x,h2,h3⟩
theorem C1.below {n m v:Nat} {r:rowT} (h:C1 p n m r x) (hv:v<n):gO p (x.left.getD v 0):=(h.at hv).2.2
theorem B8.step {n m u:Nat} {S':List rowT} {Z:List A9} (h:B8 p n m u X0 pl S Y) (hp:2<=p/\p<=3) (hu:u<n) {j:Nat} (hj:pl.length<=j) (qc:j<m) {yd yj xd:A9} (hd:Y[pl.length]?=some yd) (qd:Y[j]?=some yj) (hz:yj.left.getD u 0≠0) (qe:xd=cL p (yj.left.getD u 0 - 1+p) yj yj) (hS:C2 p n m S' Z) (hl:Z.length=m) (qf:Z[pl.length]?=some xd) (qk:∀ k x,k≠pl.length->((Y.set pl.length yj).set j yd)[k]?=some x->Z[k]?=some (cL p (p - x.left.getD u 0) x xd)):B8 p n m (u+1) X0 (pl++[(u:Int)]) S' Z:=by
 have ql:1<=p/\p<=3:=⟨by omega,hp.2⟩;have hlen:=h.len;obtain⟨rj,yj',e1,qa⟩:=h.at qc
 obtain rfl:yj=yj':=by rw[qd] at e1;exact Option.some.inj e1
 have dm:pl.length<m:=by omega
 have qm:=qa.below hu
 have xdl:xd.left.length=n:=by rw[qe];simp [cL,qa.nl]
 have xv:∀ v,v<u->xd.left.getD v 0=0:=λv hv=>by
  have qh:yj.left.getD v 0=0:=by rw[<- pF qd];exact h.low j v hj qc hv
  rw[qe,xJs qa qa (by omega),qh,xIy]
 have xu:xd.left.getD u 0=1:=by rw[qe,xJs qa qa hu];exact oHt ql qm hz
 have xc:∀ k c,k<pl.length->(∀ i,i<m->lf Y i c=if i=k then 1 else 0)->c<n->xd.left.getD c 0=0:=λk c hk hc qo=>by
  have qh:yj.left.getD c 0=0:=by rw[<- pF qd,hc j qc,if_neg (by omega)]
  rw[qe,xJs qa qa qo,qh,xIy]
 have key:∀ k,k<m->k≠pl.length->∃ i r x,i<m/\(i=if k=j then pl.length else k)/\Y[i]?=some x/\C1 p n m r x/\Z[k]?=some (cL p (p - x.left.getD u 0) x xd):=by
  intro k hk qi
  by_cases e:k=j
  ·obtain⟨r,x,g1,g2⟩:=h.at dm
   obtain rfl:yd=x:=by rw[hd] at g1;exact Option.some.inj g1
   refine⟨pl.length,r,yd,dm,by rw[if_pos e],hd,g2,qk k yd qi ?_⟩;rw[e,Al (by simp;omega)]
  ·obtain⟨r,x,g1,g2⟩:=h.at hk
   refine⟨k,r,x,hk,by rw[if_neg e],g1,g2,qk k x qi ?_⟩;rw[Aj (λe'=>e e'.symm),Aj (λe'=>qi e'.symm),g1]
 have lat:∀ {t:Int} {r:rowT} {x:A9} {v:Nat},C1 p n m r x->v<n->(cL p t x xd).left.getD v 0=eP p t (x.left.getD v 0) (xd.left.getD v 0):=λhr hv=>xKf _ (by rw[hr.nl];exact hv) (by omega);have kpl:∀ k,k<pl.length->(pl++[(u:Int)])[k]?=pl[k]?:=λk hk=>Bs hk
 have kpd:(pl++[(u:Int)])[pl.length]?=some (u:Int):=by simp
 refine⟨hS,hl,by simp;omega,λk v h1 h2 h3=>?_,λk hk=>?_,λa b x y qp ha hb=>?_,λw=>?_⟩
 ·rw[Aq,Ak] at h1
  obtain⟨i,r,x,i1,i2,i3,i4,i5⟩:=key k h2 (by omega);rw[pF i5,lat i4 (by omega)]
  have hi:pl.length<=i:=by rw[i2];split<;>omega
  by_cases e:v=u
  ·rw[e,xu];exact xXj hp (i4.below hu)
  ·have hv:v<u:=by omega
   rw[xv v hv,<- pF (u:=v) i3,h.low i v hi i1 hv,xIy]
 ·rw[Aq,Ak] at hk
  by_cases e:k=pl.length
  ·subst e
   refine⟨u,kpd,by omega,λv hv=>?_,λi hi=>?_⟩
   ·rw[pF qf];exact xv v hv
   ·by_cases e:i=pl.length
    ·rw[if_pos e,e,pF qf];exact xu
    ·obtain⟨i',r,x,i1,i2,i3,i4,i5⟩:=key i hi e
     rw[if_neg e,pF i5,lat i4 hu,xu];exact xXj hp (i4.below hu)
  ·have qj:k<pl.length:=by omega
   obtain⟨c,c1,c2,c3,c4⟩:=h.piv k qj;have x0:=xc k c qj c4 (by omega);refine⟨c,by rw[kpl k qj];exact c1,by omega,λv hv=>?_,λi hi=>?_⟩
   ·obtain⟨i',r,x,i1,i2,i3,i4,i5⟩:=key k (by omega) e
    rw[if_neg (by omega)] at i2;subst i2;rw[pF i5,lat i4 (by omega),xv v (by omega),<- pF (u:=v) i3,c3 v hv,xIy]
   ·by_cases e:i=pl.length
    ·rw[if_neg (by omega),e,pF qf];exact x0
    ·obtain⟨i',r,x,i1,i2,i3,i4,i5⟩:=key i hi e
     rw[pF i5,lat i4 (by omega),x0,xVr ql.1 (i4.below (by omega)),<- pF (u:=c) i3,c4 i' i1]
     by_cases e2:i=j
     ·rw[if_pos e2] at i2
      rw[if_neg (by omega),if_neg (by omega)]
     ·rw[if_neg e2] at i2
      rw[i2]
 ·by_cases e:b=pl.length
  ·rw[e,kpd] at hb
   cases hb
   have qn:a<pl.length:=by omega
   rw[kpl a qn] at ha;obtain⟨c,c1,c2,_⟩:=h.piv a qn;rw[ha] at c1
   cases c1
   omega
  ·have qq:b<pl.length:=by
    have:=(Ac.1 hb).1
    simp at this;omega
   rw[kpl b qq] at hb;rw[kpl a (by omega)] at ha;exact h.up a b x y qp ha hb
 ·rw[h.sem w]
  have dd:=xKc (p:=p) (t:=yj.left.getD u 0 - 1+p) qa.nl qa.nl w;rw[<- qe] at dd
  constructor
  ·intro hY k hk
   have qg:=hY j qc;rw[gP qd] at qg;have hX:=xZf dd qg qg
   by_cases e:k=pl.length
   ·rw[e,gP qf];exact hX
   ·obtain⟨i,r,x,i1,i2,i3,i4,i5⟩:=key k hk e
    have hD:=hY i i1;rw[gP i3] at hD;rw[gP i5];exact xZf (xKc i4.nl xdl w) hD hX
  ·intro hZ k hk
   have hX:=hZ pl.length dm;rw[gP qf] at hX;have qg:=oAl hp qm hz dd hX
   have oth:∀ k,k<m->k≠pl.length->∃ x,Y[if k=j then pl.length else k]?=some x/\p ∣ rG n x w:=by
    intro k hk e;obtain⟨i,r,x,i1,i2,i3,i4,i5⟩:=key k hk e;refine⟨x,i2 ▸ i3,?_⟩;have hD:=hZ k hk;rw[gP i5] at hD;exact oBk (xKc i4.nl xdl w) hD hX
   by_cases e:k=j
   ·rw[e,gP qd];exact qg
   ·by_cases e2:k=pl.length
    ·obtain⟨x,x1,x2⟩:=oth j qc (by omega)
     rw[if_pos rfl] at x1;rw[e2,gP x1];exact x2
    ·obtain⟨x,x1,x2⟩:=oth k hk e2
     rw[if_neg e] at x1;rw[gP x1];exact x2
end
section
variable {p:Int} {Y:List A9} {L:List A8} {S:List rowT} {X0:List A9} {pl:List Int}
def eqr (e:A8):A9:=⟨e.left,e.right,[]⟩
def e00:A8:=⟨[],0⟩
def kills (p:Int) (n:Nat) (L:List A8) (w:Nat->Int):Prop:=∀ e∈L,p ∣ rG n (eqr e) w
def eqe (n:Nat) (L:List A8) (i c:Nat):Int:=pA n (eqr (L.getD i e00)) c
def xMx (p:Int) (n:Nat) (e:A8):Prop:=e.left.length=n/\(∀ a∈e.left,gO p a)/\gO p e.right
structure C3 (p:Int) (n:Nat) (L:List A8):Prop where
  ok:∀ e∈L,xMx p n e
  b:∃ b:Nat->Nat,(∀ i j,i<j->j<L.length->b i<b j)/\(∀ i,i<L.length->b i<n)/\(∀ i j,i<L.length->j<L.length->eqe n L i (b j)=if i=j then 1 else 0)/\∀ i c,i<L.length->c<b i->eqe n L i c=0
theorem xKo {i:Nat} {e:A8} (h:L[i]?=some e):L.getD i e00=e:=by rw[Ao,h];rfl
theorem xMx.below {n c:Nat} {e:A8} (h:xMx p n e) (hp:0<p):gO p (pA n (eqr e) c):=by
 unfold pA
 by_cases hc:c<n
 ·rw[if_pos hc]
  have hl:c<e.left.length:=by rw[h.1];exact hc
  have:e.left.getD c 0=e.left[c]:=kK (Aa hl)
  show gO p (e.left.getD c 0)
  rw[this];exact h.2.1 _ (Bn _)
 ·rw[if_neg hc];exact h.2.2
theorem C3.red {n:Nat} (hp:2<=p) (h:C3 p n L) {K:(Nat->Int)->Prop} (hK:∀ w,kills p n L w↔K w):∃ b,Red p (n+1) (λe=>∀ w,K w->p ∣ sm (n+1) (λc=>e c*w c)) L.length (eqe n L) b:=by
 obtain⟨b,b1,b2,b3,b4⟩:=h.b
 have qa:∀ i,i<L.length->L.getD i e00∈L:=λi hi=>by rw[xKo (Aa hi)];exact Bn _
 refine⟨b,b1,λi hi=>Nat.lt_succ_of_lt (b2 i hi),λi hi w hw=>(hK w).2 hw _ (qa i hi),λi c hi _=>(h.ok _ (qa i hi)).below (by omega),b3,b4,λw hw e he=>he w ((hK w).1 λe' qc=>?_)⟩;obtain⟨i,hi,rfl⟩:=Bx qc;have:=hw i hi;have e1:L.getD i e00=L[i]:=xKo (Aa hi)
 unfold eqe at this
 rw[e1] at this;exact this
theorem C3.uniq {n:Nat} {L':List A8} (hp:2<=p) (h:C3 p n L) (h':C3 p n L') (hk:∀ w,kills p n L w↔kills p n L' w):L=L':=by
 obtain⟨b,hb⟩:=h.red hp hk;obtain⟨b',qc⟩:=h'.red hp (K:=kills p n L') (λ_=>Iff.rfl);obtain⟨u1,u2⟩:=hb.uniq hp qc;refine List.ext_getElem u1 λi hi qa=>?_;have g1:L.getD i e00=L[i]:=xKo (Aa hi);have g2:L'.getD i e00=L'[i]:=xKo (Aa qa)
 have ent:∀ c,c<n+1->pA n (eqr L[i]) c=pA n (eqr L'[i]) c:=λc hc=>by
  have:=(u2 i hi).2 c hc
  unfold eqe at this
  rwa [g1,g2] at this
 have o1:=h.ok _ (Bn hi);have o2:=h'.ok _ (Bn qa)
 have hr:L[i].right=L'[i].right:=by
  have:=ent n (by omega)
  unfold pA at this
  rwa [if_neg (by omega),if_neg (by omega)] at this
 have hl:L[i].left=L'[i].left:=by
  refine List.ext_getElem (by rw[o1.1,o2.1]) λc h1 h2=>?_
  have hc:c<n:=by have:=o1.1;omega
  have:=ent c (by omega)
  unfold pA at this
  rw[if_pos hc,if_pos hc] at this;have a1:(eqr L[i]).left.getD c 0=L[i].left[c]:=kK (Aa h1);have a2:(eqr L'[i]).left.getD c 0=L'[i].left[c]:=kK (Aa h2)
  rwa [a1,a2] at this
 generalize L[i]=e1 at hr hl;generalize L'[i]=e2 at hr hl
 cases e1;cases e2
 simp only at hr hl;rw[hr,hl]
theorem C3.len {n:Nat} (h:C3 p n L):L.length<=n:=by
 obtain⟨b,b1,b2,_⟩:=h.b
 have key:∀ i,i<L.length->i<=b i:=by
  intro i
  induction i with
  | zero=>intro _;omega
  | succ i ih=>intro hi;have:=ih (by omega);have:=b1 i (i+1) (by omega) hi;omega
 by_cases h0:L.length=0
 ·omega
 ·have:=key (L.length - 1) (by omega)
  have:=b2 (L.length - 1) (by omega)
  omega
theorem xWf (p:Int) (n:Nat):C3 p n []:=⟨λe h=>by simp at h,λ_=>0,λi j _ h=>by simp at h,λi h=>by simp at h,λi j h=>by simp at h,λi c h=>by simp at h⟩
def xFe (d:Nat) (Y:List A9):List A8:=(Y.take d).map λy=>⟨y.left,y.right⟩
theorem xBm {d i:Nat} {y:A9} (hi:i<d) (h:Y[i]?=some y):(xFe d Y)[i]?=some ⟨y.left,y.right⟩:=by
 unfold xFe
 rw[Ay,List.getElem?_take_of_lt hi,h];rfl
theorem xCh {d:Nat} (h:d<=Y.length):(xFe d Y).length=d:=by unfold xFe;simp;omega
theorem B8.shape {n m:Nat} (h:B8 p n m n X0 pl S Y):C3 p n (xFe pl.length Y):=by
 have hlen:=h.len;have hle:=h.le;have hd:=xCh (d:=pl.length) (Y:=Y) (by omega)
 have at':∀ i,i<pl.length->∃ r y,Y[i]?=some y/\C1 p n m r y/\(xFe pl.length Y)[i]?=some ⟨y.left,y.right⟩:=λi hi=>by
  obtain⟨r,y,y1,y2⟩:=h.at (k:=i) (by omega);exact⟨r,y,y1,y2,xBm hi y1⟩
 have ent:∀ i c,i<pl.length->c<n->eqe n (xFe pl.length Y) i c=lf Y i c:=λi c hi hc=>by
  obtain⟨r,y,y1,y2,y3⟩:=at' i hi
  unfold eqe pA
  rw[xKo y3,if_pos hc,pF y1];rfl
 have hb:∀ i,i<pl.length->∃ c:Nat,pl[i]?=some (c:Int)/\(pl.getD i 0).toNat=c:=λi hi=>by
  obtain⟨c,c1,_⟩:=h.piv i hi;refine⟨c,c1,?_⟩;rw[kK c1];omega
 refine⟨λe he=>?_,λi=>(pl.getD i 0).toNat,λi j qa hj=>?_,λi hi=>?_,λi j hi hj=>?_,λi c hi hc=>?_⟩
 ·obtain⟨i,hi,rfl⟩:=Bx he
  obtain⟨r,y,y1,y2,y3⟩:=at' i (by omega);rw[Aa hi] at y3;rw[Option.some.inj y3];exact⟨y2.nl,y2.lb,y2.rb⟩
 ·rw[hd] at hj
  obtain⟨a,a1,a2⟩:=hb i (by omega);obtain⟨b,b1,b2⟩:=hb j hj;have:=h.up i j a b qa a1 b1;simp only[a2,b2];omega
 ·rw[hd] at hi
  obtain⟨c,c1,c2,_⟩:=h.piv i hi;obtain⟨a,a1,a2⟩:=hb i hi;simp only[a2];rw[a1] at c1;have:=Option.some.inj c1
  omega
 ·rw[hd] at hi hj
  obtain⟨c,c1,c2,c3,c4⟩:=h.piv j hj;obtain⟨a,a1,a2⟩:=hb j hj;simp only[a2];rw[a1] at c1
  have:a=c:=by have:=Option.some.inj c1;omega
  subst this;rw[ent i a hi c2,c4 i (by omega)]
 ·rw[hd] at hi
  obtain⟨c',c1,c2,c3,c4⟩:=h.piv i hi;obtain⟨a,a1,a2⟩:=hb i hi;simp only[a2] at hc;rw[a1] at c1
  have:a=c':=by have:=Option.some.inj c1;omega
  subst this;rw[ent i c hi (by omega),c3 c hc]
theorem B8.kills {n m:Nat} (h:B8 p n m n X0 pl S Y) (hz:∀ k y,pl.length<=k->Y[k]?=some y->y.right=0) (w:Nat->Int):kills p n (xFe pl.length Y) w↔∀ k,k<m->p ∣ rG n (X0.getD k xQz) w:=by
 rw[h.sem w];have hlen:=h.len;have hle:=h.le;have hd:=xCh (d:=pl.length) (Y:=Y) (by omega)
 constructor
 ·intro hk k qc
  obtain⟨r,y,y1,y2⟩:=h.at qc;rw[gP y1]
  by_cases e:k<pl.length
  ·exact hk ⟨y.left,y.right⟩ (Ae (xBm e y1))
  ·have:rG n y w=0:=by
    unfold rG
    refine xCl λc hc=>?_
    unfold pA
    by_cases qa:c<n
    ·rw[if_pos qa,<- pF y1,h.low k c (by omega) qc qa,Int.zero_mul]
    ·rw[if_neg qa,hz k y (by omega) y1,Int.zero_mul]
   rw[this];exact Int.dvd_zero p
 ·intro hk e he
  obtain⟨i,hi,rfl⟩:=Bx he;rw[hd] at hi;obtain⟨r,y,y1,y2⟩:=h.at (k:=i) (by omega);have g:=xBm hi y1;rw[Aa (by omega)] at g;rw[Option.some.inj g];have:=hk i (by omega);rw[gP y1] at this;exact this
theorem B8.none {n m:Nat} (h:B8 p n m n X0 pl S Y) {w:Nat->Int} (hw:w n= -1) (h0:∀ k,k<m->p ∣ rG n (X0.getD k xQz) w):∀ k y,pl.length<=k->Y[k]?=some y->y.right=0:=by
 intro k y hk y1;have hlen:=h.len
 have qa:k<m:=by have:=(Ac.1 y1).1;omega
 obtain⟨r,y',y1',y2⟩:=h.at qa
 obtain rfl:y=y':=by rw[y1] at y1';exact Option.some.inj y1'
 have d:=(h.sem w).1 h0 k qa;rw[gP y1] at d
 have e:rG n y w=y.right*w n:=by
  unfold rG
  rw[sm,xCl λc hc=>?_]
  ·unfold pA;rw[if_neg (by omega)];omega
  ·unfold pA
   rw[if_pos hc,<- pF y1,h.low k c hk qa hc,Int.zero_mul]
 rw[e,hw] at d;obtain⟨q,hq⟩:=d;obtain⟨r0,r1⟩:=y2.rb
 rcases Int.lt_trichotomy q 0 with g | g | g
 ·have:p*q<=p*(-1):=Dn (by omega) (by omega)
  omega
 ·subst g;omega
 ·have:p*1<=p*q:=Dn (by omega) (by omega)
  omega
end
section
theorem xXu {α:Type} {l:List α} {i:Nat} (h:i<=l.length):sl l (i:Int) (l.length:Int)=some (l.drop i):=by
 unfold sl
 rw[if_pos ⟨by omega,by omega,by omega⟩,Ad,Ad,List.take_length]
theorem xNp {p z:Int} {n m:Nat} {r:rowT} {x:A9} (hp:1<=p/\p<=3) (hz:gO p z) (h0:z≠0) (hn:n<=500) (hm:m<=500) (h:C1 p n m r x):iC r p z=some (xAl (cL p (z - 1+p) x x))/\bS x z p=some (cL p (z - 1+p) x x)/\C1 p n m (xAl (cL p (z - 1+p) x x)) (cL p (z - 1+p) x x):=by
 have ht:0<=z - 1+p/\z - 1+p<=5:=by have:=hz.1;have:=hz.2;omega
 refine⟨?_,xZi hp hz h0 h,⟨rfl,rfl,by simp [cL,h.nl],by simp [cL,h.ml],wR hp ht h.lb h.lb,(xOl hp ht h.rb h.rb).2.2.2,wR hp ht h.bb h.bb⟩⟩
 unfold iC
 rw[zJ (x:=z - 1) (by have:=hz.1;have:=hz.2;omega) (by have:=hz.1;have:=hz.2;omega),bnd_s,zJ (x:=z - 1+p) (by omega) (by omega),bnd_s,show rowT.mk r.numbers r.bys=r from rfl,xHm hp ht hn hm h h,bnd_s]
 rfl
theorem xQv {α:Type} {l:List α} {d j:Nat} {x y:α} (hd:d<l.length) (hj:j<l.length) (hy:l[j]?=some y) (hx:l[d]?=some x):((l.set d y).set j x)[d]?=some y:=by
 by_cases e:j=d
 ·subst e
  rw[Al (by simp;omega),<- hx,hy]
 ·rw[Aj e,Al hd]
theorem xXb {p:Int} {n m:Nat} {R:List rowT} {X:List A9} (h:C2 p n m R X) (hl:R.length=m):B8 p n m 0 X [] R X:= ⟨h,by have:=h.len;omega,by simp,λk v _ _ h=>by omega,λk h=>by simp at h,λi j a b _ h=>by simp at h,λw=>Iff.rfl⟩
theorem xDp {p:Int} {n m:Nat} {s:B1} (h:SysOk p n m s):∃ S Y pl X0,fU s=some (S,pl)/\dE s=some (Y,(pl.length:Int))/\B8 p n m n X0 pl S Y/\X0.map (λx=>(x.left,x.right))=s.list.map (λe=>(e.left,e.right)):=by
 obtain⟨R,X,q1,q2,q3,q4,q5⟩:=xTh (ρ:=List rowT×List Int) h;have hp:=h.p3;have qe:1<=p/\p<=3:=⟨by omega,hp.2⟩;have hn:=h.n3;have hm:=h.m3
 have tw:cG (fU s) (dE s) (λa b=>∃ S Y pl,a=(S,pl)/\b=(Y,(pl.length:Int))/\B8 p n m n X pl S Y):=by
  unfold fU dE
  rw[q1,thn_nx,q2,bnd_s,h.un,Ad,h.pr];refine cG.thn (λa b=>∃ S Y pl,a=(pl,S)/\b=(Y,(pl.length:Int))/\B8 p n m n X pl S Y) (λ_ _=>False) (cG.mono (cG.forI 0 (λu a b=>∃ S Y pl,a=(pl,S)/\b=(Y,((pl.length:Nat):Int))/\B8 p n m u X pl S Y) (λ_ _=>False) ⟨R,X,[],rfl,rfl,xXb q3 q4⟩ (λu a b _ hu hR=>?_)) (λa b qa=>?_)) (λa b qa=>?_) (λ_ _ h=>h.elim)
  ·obtain⟨S,Y,pl,rfl,rfl,I⟩:=hR
   simp only[Cb]
   have qc:u<n:=by omega
   have hSl:S.length=m:=by have:=I.rows.len;have:=I.len;omega
   have hYl:=I.len;have hle:=I.le;obtain⟨j,j1,j2,j3,j4,j5,j6⟩:=xRc (ρ:=Ctl ((List A9)×Int) (List A9×Int)) I.rows qc (S.length - pl.length) pl.length 0 (by omega)
   have qd:((Y.length:Int) - (pl.length:Int)).toNat=S.length - pl.length:=by omega
   rw[xXu (by omega),bnd_s]
   unfold zI
   rw[j5,qd,j6 0,thn_nx]
   by_cases hj:j<S.length
   ·rw[if_pos hj,thn_ret,bnd_s]
    obtain⟨rj,yj,g1,g2,g3⟩:=I.rows.get (k:=j) hj;obtain⟨rd,yd,f1,f2,f3⟩:=I.rows.get (k:=pl.length) (by omega);have hz:=j4 hj;rw[pF g2] at hz;obtain⟨a1,a2,a3⟩:=g3.at qc;obtain⟨t1,t2,t3⟩:=xNp qe a3 hz (by omega) (by omega) g3
    have e0:(((pl.length:Nat):Int)+((0+(j - pl.length):Nat):Int))=(j:Int):=by omega
    have c0:decide (((0+(j - pl.length):Nat):Int)<0)=false:=by rw[Dw];omega
    have c1:((j:Int)==(Y.length:Int))=false:=by rw[Dm];omega
    rw[c0,if_neg (by simp),e0,zJ (by omega) (by omega),bnd_s,vE g1,bnd_s,vE f1,bnd_s];simp only[Ad,c1,Af,if_false];rw[vE (xQv (by omega) hj g1 f1),bnd_s,a1,bnd_s]
    unfold mX
    rw[bnd_s,t1,bnd_s,vE f2,bnd_s,vE g2,bnd_s,vE (xQv (by omega) (by omega) g2 f2),bnd_s,a2,bnd_s,t2,bnd_s];have hE:C2 p n m (((S.set pl.length rj).set j rd).set pl.length (xAl (cL p (yj.left.getD u 0 - 1+p) yj yj))) (((Y.set pl.length yj).set j yd).set pl.length (cL p (yj.left.getD u 0 - 1+p) yj yj)):=((I.rows.set g3).set f3).set t3;obtain⟨S',Y',b1,b2,b3,b4,b5,b6⟩:=xJe (ρ:=Ctl ((List Int)×(List rowT)) ((List rowT)×(List Int))) (ρ':=Ctl ((List A9)×Int) (List A9×Int)) (R:=[]) (u:=u) (done:=pl.length) (X:=((Y.set pl.length yj).set j yd).set pl.length (cL p (yj.left.getD u 0 - 1+p) yj yj)) (xd:=cL p (yj.left.getD u 0 - 1+p) yj yj) qe (by omega) (by omega) qc (Al (by simp;omega)) Y.length 0 (((S.set pl.length rj).set j rd).set pl.length (xAl (cL p (yj.left.getD u 0 - 1+p) yj yj))) _ _ (by simp) (by simp;omega) hE rfl (Al (by simp;omega)) (λk _=>rfl) (λk x hk=>by omega);have b1':=b1;rw[show rowT.mk (xAl (cL p (yj.left.getD u 0 - 1+p) yj yj)).numbers (xAl (cL p (yj.left.getD u 0 - 1+p) yj yj)).bys=xAl (cL p (yj.left.getD u 0 - 1+p) yj yj) from rfl];refine cG.thn (λa b=>a=S'/\b=Y') (λ_ _=>False) ⟨_,_,b1,b2,⟨rfl,rfl⟩⟩ (λa b qa=>?_) (λ_ _ h=>h.elim);obtain⟨rfl,rfl⟩:=qa;rw[kX (by simp only[Ak];omega),bnd_s,zJ (by omega) (by omega),bnd_s];refine cG.s ⟨a,b,pl++[(u:Int)],rfl,by simp,?_⟩;refine I.step hp qc j1 (by omega) f2 g2 hz rfl b3 (by rw[b4];simp;omega) b5 (λk x hk hx=>b6 k x hk ?_);rw[Aj (λe=>hk e.symm)];exact hx
   ·have hjm:j=S.length:=by omega
    rw[if_neg hj,thn_nx,bnd_s]
    have c1:((j:Int)==(Y.length:Int))=true:=by rw[Cy];omega
    rw[c1,if_pos rfl,if_pos (by decide)];exact cG.s ⟨S,Y,pl,rfl,rfl,I.skip (λk h1 h2=>j3 k h1 (by omega))⟩
  ·rw[Bj] at qa
   exact qa
  ·obtain⟨S,Y,pl,rfl,rfl,I⟩:=qa
   exact cG.s ⟨S,Y,pl,rfl,rfl,I⟩
 obtain⟨a,b,t1,t2,S,Y,pl,rfl,rfl,I⟩:=tw;exact⟨S,Y,pl,X,t1,t2,I,q5⟩
end
section
variable {p:Int} {X0:List A9}
theorem tK {α ρ:Type} {b:Nat->α->Unit->Option (Ctl Unit ρ)}:∀ (l:List α) (k:Nat),(∀ j x,l[j]?=some x->b (k+j) x ()=some (.go ()))->oM b l k ()=some (.nx ())
 | [],k,_=>rfl
 | x::l,k,h=>by
  rw[vQ (k:=k) (h 0 x rfl)];exact tK l (k+1) (λj y hj=>by rw[Dq,Ef 1 j];exact h (j+1) y hj)
theorem xLh {α ρ:Type} {b:Nat->α->Unit->Option (Ctl Unit ρ)} {r:ρ}:∀ (l:List α) (k j:Nat) (x:α),l[j]?=some x->(∀ i y,i<j->l[i]?=some y->b (k+i) y ()=some (.go ()))->b (k+j) x ()=some (.ret r)->oM b l k ()=some (.ret r)
 | [],k,j,x,h,_,_=>by simp at h
 | y::l,k,0,x,h,_,hr=>by
  cases h
  exact fP hr
 | y::l,k,j+1,x,h,hg,hr=>by
  rw[vQ (k:=k) (hg 0 y (by omega) rfl)];exact xLh l (k+1) j x h (λi z hi hz=>by rw[Dq,Ef 1 i];exact hg (i+1) z (by omega) hz) (by rw[Dq,Ef 1 j];exact hr)
theorem xQx {ρ:Type} {b:Nat->Unit->Option (Ctl Unit ρ)} {r:ρ}:∀ (m k j:Nat),j<m->(∀ i,i<j->b (k+i) ()=some (.go ()))->b (k+j) ()=some (.ret r)->qM b m k ()=some (.ret r)
 | 0,k,j,h,_,_=>by omega
 | m+1,k,0,_,_,hr=>mR hr
 | m+1,k,j+1,h,hg,hr=>by
  rw[zM (k:=k) (hg 0 (by omega))];exact xQx m (k+1) j (by omega) (λi hi=>by rw[Dq,Ef 1 i];exact hg (i+1) (by omega)) (by rw[Dq,Ef 1 j];exact hr)
theorem xZj {α:Type} (l:List α) (p:α->Bool):(∀ (k:Nat) x,l[k]?=some x->p x=false)∨∃ (j:Nat) (x:α),l[j]?=some x/\p x=true/\∀ (k:Nat) y,k<j->l[k]?=some y->p y=false:=by
 induction l with
 | nil=>exact .inl λk x h=>by simp at h
 | cons a l ih=>
  by_cases ha:p a=true
  ·exact .inr ⟨0,a,rfl,ha,λk y h=>by omega⟩
  ·have qa:p a=false:=by simpa using ha
   rcases ih with ih | ⟨j,x,h1,h2,h3⟩
   ·left
    intro k x h
    cases k with
    | zero=>cases h;exact qa
    | succ k=>exact ih k x h
   ·right
    refine⟨j+1,x,h1,h2,λk y hk hy=>?_⟩
    cases k with
    | zero=>cases hy;exact qa
    | succ k=>exact h3 k y (by omega) hy
theorem xAy {α:Type} {l:List α} {k:Nat} (h:k<=l.length):sl l 0 (k:Int)=some (l.take k):=by
 unfold sl
 rw[if_pos ⟨by omega,by omega,by omega⟩,Ad]
 rfl
def xNe (x:A9):Bool:=!(x.left.any (· != 0)) && (x.right != 0)
theorem xVd (l:List Int):qU l (λa0=>lJ a0)=some (l.any (· != 0)):=by
 exact tC l _ _ (λx=>rfl)
theorem xEu {n m:Nat} {r:rowT} {x:A9} (hn:n<=500) (h:C1 p n m r x):dH r=some x.right:=by
 have hl:r.numbers.length=n+1:=by rw[h.num,Aq,Ak,h.nl]
 unfold dH
 rw[hl,zJ (by omega) (by omega),bnd_s,show(((n+1:Nat):Int) - 1)=(n:Int) by omega,vE (x:=x.right) (by rw[h.num,Bb (by rw[h.nl];exact Az _),h.nl,Ed];rfl),bnd_s]
theorem xTo {n m:Nat} {r:rowT} {x:A9} (hn:n<=500) (h:C1 p n m r x):bH r=some (xNe x):=by
 have hl:r.numbers.length=n+1:=by rw[h.num,Aq,Ak,h.nl]
 have ht:r.numbers.take n=x.left:=by rw[h.num,Cu (by rw[h.nl];exact Az _),Ck (by rw[h.nl];exact Az _)]
 unfold bH nW
 rw[show rowT.mk r.numbers r.bys=r from rfl,xEu hn h,hl,zJ (by omega) (by omega),bnd_s,show(((n+1:Nat):Int) - 1)=(n:Int) by omega,xAy (by omega),bnd_s,ht,xVd,bnd_s,bnd_s]
 unfold xNe
 cases x.left.any (· != 0)<;>rfl
theorem oIo {n m:Nat} {r:rowT} {x:A9} (h:C1 p n m r x):r=xAl x:=by
 cases r
 unfold xAl
 have h1:=h.num
 have h2:=h.by'
 simp only at h1 h2;rw[h1,h2]
theorem xLa {n m:Nat} {pl:List Int} {S:List rowT} {Y:List A9} (I:B8 p n m n X0 pl S Y) {k:Nat} {y:A9} (hy:Y[k]?=some y):xNe y=if pl.length<=k then y.right != 0 else false:=by
 have qa:k<m:=by have:=(Ac.1 hy).1;have:=I.len;omega
 obtain⟨r,y',y1,y2⟩:=I.at qa
 obtain rfl:y=y':=by rw[hy] at y1;exact Option.some.inj y1
 unfold xNe
 by_cases h:pl.length<=k
 ·rw[if_pos h]
  have:y.left.any (· != 0)=false:=by
   rw[List.any_eq_false];intro a ha;obtain⟨c,hc,rfl⟩:=Bx ha;have h0:=I.low k c h qa (by have:=y2.nl;omega);rw[pF hy,kK (Aa hc)] at h0
   simp [h0]
  rw[this];rfl
 ·rw[if_neg h]
  obtain⟨c,c1,c2,c3,c4⟩:=I.piv k (by omega);have h1:=c4 k qa;rw[if_pos rfl,pF hy] at h1
  have hc:c<y.left.length:=by have:=y2.nl;omega
  rw[kK (Aa hc)] at h1
  have:y.left.any (· != 0)=true:=by
   rw[List.any_eq_true];exact⟨y.left[c],Bn _,by rw[h1];rfl⟩
  rw[this];rfl
theorem yO {n m:Nat} {pl:List Int} {S:List rowT} {Y:List A9} (I:B8 p n m n X0 pl S Y) (hn:n<=500) (hm:m<=500) :
 ((∀ (k:Nat) y,pl.length<=k->Y[k]?=some y->y.right=0)/\kU S=some (⟨[],[]⟩,false)/\cW Y (pl.length:Int)=some (-1)) ∨
 ∃ (j:Nat) (y:A9),pl.length<=j/\Y[j]?=some y/\C1 p n m (xAl y) y/\y.right≠0/\kU S=some (xAl y,true)/\cW Y (pl.length:Int)=some (j:Int):=by
 have hS:=I.rows.len;have hY:=I.len;have hle:=I.le
 have cnt:((Y.length:Int) - (pl.length:Int)).toNat=Y.length - pl.length:=by omega
 have body:∀ (i:Nat) r,S[i]?=some r->∃ y,Y[i]?=some y/\C1 p n m r y/\bH r=some (xNe y):=by
  intro i r hr;obtain⟨r',y,g1,g2,g3⟩:=I.rows.get (k:=i) (Ac.1 hr).1
  obtain rfl:r=r':=by rw[hr] at g1;exact Option.some.inj g1
  exact⟨y,g2,g3,xTo hn g3⟩
 rcases xZj Y xNe with hA | ⟨j,y,j1,j2,j3⟩
 ·left
  have hz:∀ (k:Nat) y,pl.length<=k->Y[k]?=some y->y.right=0:=λk y hk hy=>by
   have:=hA k y hy;rw[xLa I hy,if_pos hk] at this
   simpa using this
  refine⟨hz,?_,?_⟩
  ·unfold kU zI
   rw[tK S 0 (λi r hr=>by
    obtain⟨y,g2,g3,g4⟩:=body i r hr;simp only[g4,bnd_s,hA i y g2]
    rfl),thn_nx,bnd_s]
   rfl
  ·unfold cW
   rw[cnt,xDx (λi _ hi=>by
    have hx:Y[pl.length+i]?=some (Y[pl.length+i]'(by omega)):=Aa (by omega);have h0:=hz _ _ (by omega) hx;simp only;rw[show((pl.length:Int)+(i:Int))=((pl.length+i:Nat):Int) by omega,vE hx,bnd_s,h0]
    rfl),thn_nx]
 ·right
  have j4:=j2;rw[xLa I j1] at j4
  have hj:pl.length<=j:=by
   refine Classical.byContradiction λh=>?_;rw[if_neg h] at j4
   simp at j4
  rw[if_pos hj] at j4;have hjl:=(Ac.1 j1).1;obtain⟨r,y',g1,g2,g3⟩:=I.rows.get (k:=j) (by omega)
  obtain rfl:y=y':=by rw[j1] at g2;exact Option.some.inj g2
  have hr:=oIo g3;refine⟨j,y,hj,j1,hr ▸ g3,by simpa using j4,?_,?_⟩
  ·unfold kU zI
   rw[xLh (r:=(j:Int)) S 0 j r g1 (λi x hi hx=>by
    obtain⟨y',g2,g3,g4⟩:=body i x hx;simp only[g4,bnd_s,j3 i y' hi g2]
    rfl) (by
    obtain⟨y',g2',g3',g4⟩:=body j r g1
    obtain rfl:y=y':=by rw[j1] at g2';exact Option.some.inj g2'
    simp only[g4,bnd_s,j2,Bj]
    rfl),thn_ret,bnd_s,if_neg (by rw[Bg];omega),vE g1,bnd_s,hr]
  ·unfold cW
   rw[cnt,xQx (r:=(j:Int)) _ 0 (j - pl.length) (by omega) (λi hi=>by
    have hx:Y[pl.length+i]?=some (Y[pl.length+i]'(by omega)):=Aa (by omega);have h0:=j3 _ _ (by omega) hx;rw[xLa I hx,if_pos (by omega)] at h0;simp only;rw[show((pl.length:Int)+((0+i:Nat):Int))=((pl.length+i:Nat):Int) by omega,vE hx,bnd_s,h0]
    rfl) (by
    simp only;rw[show((pl.length:Int)+((0+(j - pl.length):Nat):Int))=(j:Int) by omega,vE j1,bnd_s,j4]
    rfl),thn_ret]
theorem xHo {n m:Nat} {L:List A8} (h:X0.map (λx=>(x.left,x.right))=L.map (λe=>(e.left,e.right))) (hm:L.length=m) (w:Nat->Int):kills p n L w↔∀ k,k<m->p ∣ rG n (X0.getD k xQz) w:=by
 have hl:X0.length=L.length:=by simpa using congrArg List.length h
 have at':∀ (k:Nat) (hk:k<m),∃ x e,X0[k]?=some x/\L[k]?=some e/\rG n x w=rG n (eqr e) w:=by
  intro k hk;have h1:X0[k]?=some (X0[k]'(by omega)):=Aa (by omega);have h2:L[k]?=some (L[k]'(by omega)):=Aa (by omega);refine⟨_,_,h1,h2,?_⟩;have e:=congrArg (λl=>l[k]?) h;simp only[Ay,h1,h2,Cr,Option.some.injEq,Prod.mk.injEq] at e
  unfold rG pA eqr
  rw[e.1,e.2]
 constructor
 ·intro hk k qa
  obtain⟨x,e,x1,x2,x3⟩:=at' k qa;rw[gP x1,x3];exact hk e (Ae x2)
 ·intro hk e he
  obtain⟨k,qc,rfl⟩:=Bx he;obtain⟨x,e',x1,x2,x3⟩:=at' k (by omega);have:=hk k (by omega);rw[gP x1,x3] at this;rw[Aa qc] at x2;rw[Option.some.inj x2];exact this
theorem xHp {n m:Nat} {s:B1} (h:SysOk p n m s) {w:Nat->Int} (hw:w n= -1) (hk:kills p n s.list w):∃ L,fA s=some ⟨p,(n:Int),L⟩/\fI s=some ⟨p,(n:Int),L⟩/\C3 p n L/\∀ w,kills p n L w↔kills p n s.list w:=by
 obtain⟨S,Y,pl,X0,r1,r2,I,hX⟩:=xDp h;have hn:=h.n3;have hm:=h.m3;have hz:=I.none hw ((xHo hX h.ln w).1 hk);have hSl:=I.rows.len;have hYl:=I.len;have hle:=I.le;refine⟨xFe pl.length Y,?_,?_,I.shape,λw=>by rw[I.kills hz w,xHo hX h.ln w]⟩
 ·unfold fA
  rw[show B1.mk s.prime s.unknowns s.list=s from rfl,r1,bnd_s]
  rcases yO I (by omega) (by omega) with ⟨_,c1,_⟩ | ⟨j,y,j0,j1,_,j2,c1,c2⟩
  ·rw[c1,bnd_s,if_neg (by simp),xAy (l:=S) (k:=pl.length) (by omega),bnd_s,h.pr,h.un]
   rw[mQ (S.take pl.length) (λr=>A8.mk (r.numbers.take n) (r.numbers.getD n 0)) (λi r s' hr hs=>by
    have hi:i<pl.length:=by
     have:=(Ac.1 hr).1
     simp at this;omega
    rw[List.getElem?_take_of_lt hi] at hr;obtain⟨r',y,g1,g2,g3⟩:=I.rows.get (k:=i) (Ac.1 hr).1
    obtain rfl:r=r':=by rw[hr] at g1;exact Option.some.inj g1
    have hl:r.numbers.length=n+1:=by rw[g3.num,Aq,Ak,g3.nl]
    have qa:r.numbers.getD n 0=y.right:=kK (by rw[g3.num,Bb (by rw[g3.nl];exact Az _),g3.nl,Ed];rfl)
    rw[xAy (by omega),bnd_s,xCe (by rw[Bc];omega),bnd_s,show rowT.mk r.numbers r.bys=r from rfl,xEu (by omega) g3,bnd_s,kX (by simp only[Ak];omega),bnd_s,qa]) (S.take pl.length) 0 [] rfl rfl,thn_nx,Bp]
   congr 2
   refine List.ext_getElem (by rw[xCh (by omega)];simp;omega) λi h1 h2=>?_
   have hi:i<pl.length:=by simp at h1;omega
   obtain⟨r,y,g1,g2,g3⟩:=I.rows.get (k:=i) (by omega);have hd:=xBm hi g2;rw[Aa h2] at hd;rw[Option.some.inj hd,List.getElem_map,List.getElem_take];rw[Aa (by omega)] at g1;rw[Option.some.inj g1,g3.num,Cu (by rw[g3.nl];exact Az _),Ck (by rw[g3.nl];exact Az _)]
   congr 1
   exact kK (by rw[Bb (by rw[g3.nl];exact Az _),g3.nl,Ed];rfl)
  ·exact absurd (hz j y j0 j1) j2
 ·unfold fI
  rw[r2,bnd_s]
  rcases yO I (by omega) (by omega) with ⟨_,c1,c2⟩ | ⟨j,y,j0,j1,_,j2,c1,c2⟩
  ·rw[c2,bnd_s,if_neg (by decide),h.pr,h.un,Ad]
   rw[sE (n:=pl.length) (λk=>A8.mk (Y.getD k xQz).left (Y.getD k xQz).right) (λi s' hi hs=>by
    have hx:Y[i]?=some (Y[i]'(by omega)):=Aa (by omega)
    rw[vE hx,bnd_s,kX (by simp only[Ak];omega),bnd_s,gP hx]) pl.length 0 [] rfl (by omega),thn_nx,Bp]
   congr 2
   refine List.ext_getElem (by rw[xCh (by omega)];simp) λi h1 h2=>?_
   have hi:i<pl.length:=by simpa using h1
   have hx:Y[i]?=some (Y[i]'(by omega)):=Aa (by omega);have hd:=xBm hi hx;rw[Aa h2] at hd;rw[Option.some.inj hd,List.getElem_map,List.getElem_range',Bj,Nat.one_mul,gP hx]
  ·exact absurd (hz j y j0 j1) j2
end
section
variable {p:Int}
theorem xDd {n:Nat} {e:A8} (hp:2<=p/\p<=3) (h:xMx p n e):jV p (n:Int) e=some true/\gS p (n:Int) e=some true:=by
 obtain⟨h1,h2,h3⟩:=h
 have hs:okS p=true:=by unfold okS;simp;omega
 have hv:∀ a,gO p a->okV p a=true:=λa ha=>by
  unfold gO at ha
  unfold okV
  simp;omega
 have qc:xAb p e.left (n:Int)=true:=by
  unfold xAb
  simp only[Ba,Ci,Cy];exact⟨by omega,λa ha=>hv a (h2 a ha)⟩
 constructor
 ·unfold jV
  rw[yW hs,bnd_s,qc,if_pos rfl,xKg hs,bnd_s,hv _ h3]
  rfl
 ·unfold gS
  have qa:∀ a,gO p a->zZ a 0 (p - 1)=some true:=λa ha=>by
   unfold gO at ha
   rw[dV]
   simp;omega
  rw[show((e.left.length:Int) != (n:Int))=false by rw[h1];simp,if_neg (by simp),zJ (x:=p - 1) (by omega) (by omega),bnd_s,qa _ h3,bnd_s,Bm,thn_nx,if_neg (by simp)]
  rw[tK e.left 0 (λj a ha=>by
   simp only;rw[bnd_s,qa _ (h2 a (Ae ha)),bnd_s]
   rfl),thn_nx]
theorem xPe (l:List A8) (p:A8->Bool) (f:A8->Option Bool) (hf:∀ x∈l,f x=some (p x)):vV l f=some (l.any p):=by
 obtain⟨i,h1,h2⟩:=uN l p f hf
 unfold vV kG
 rw[h1,bnd_s,<- h2]
theorem xOb {n m:Nat} {s:B1} (h:SysOk p n m s) (hn:1<=n/\n<=12) (hm:m<=24):eH s=some true/\rM s=some true:=by
 have hp:=h.p3
 have qa:(p==2 || p==3)=true:=by
  rw[Bool.or_eq_true,Cy,Cy];omega
 have hln:=h.ln
 constructor
 ·unfold eH
  rw[h.pr,h.un,(pG p).1,bnd_s,qa,if_pos rfl,fG,bnd_s];rw[show(decide ((1:Int)<=(n:Int)) && decide ((n:Int)<=12))=true by simp;omega,if_pos rfl,if_pos (by simp;omega)]
  rw[xPe s.list (λ_=>false) _ (λe he=>by
   unfold iK
   rw[show A8.mk e.left e.right=e from rfl];simp only;rw[(xDd hp (h.eq e he)).1,bnd_s]
   rfl),bnd_s]
  have:s.list.any (λ_=>false)=false:=by simp
  rw[this];rfl
 ·unfold rM
  rw[h.pr,h.un,(pG p).2,bnd_s,qa,Bm,if_neg (by simp),dV,bnd_s];rw[show(decide ((1:Int)<=(n:Int)) && decide ((n:Int)<=12))=true by simp;omega,Bm,if_neg (by simp),thn_nx,if_neg (by simp;omega)]
  rw[tK s.list 0 (λj e he=>by
   simp only;rw[(xDd hp (h.eq e (Ae he))).2,bnd_s]
   rfl),thn_nx]
theorem xYb {n:Nat} (h:n<=400):pN (0:Int) (n:Int)=some (List.replicate n 0):=by
 unfold pN
 rw[if_pos ⟨by omega,by omega⟩,Ad]
theorem xYu {left:List Int} {c:Nat} (hc:c<left.length) (h1:left.getD c 0≠0) (h0:∀ v,v<c->left.getD v 0=0):jY left=some (c:Int):=by
 unfold jY
 rw[xLh (r:=(c:Int)) left 0 c (left[c]) (Aa hc) (λi y hi hy=>by
  have:=h0 i hi;rw[kK hy] at this;simp only[this]
  rfl) (by
  rw[kK (Aa hc)] at h1
  have:(left[c] != 0)=true:=by rw[bne_iff_ne];exact h1
  simp only[this,if_true,Bj]),thn_ret]
theorem xIi {n m:Nat} {s:B1} (h:SysOk p n m s) (hn:1<=n/\n<=12) (hm:m<=24):∃ r,eN s=some r/\eQ s=some r:=by
 obtain⟨v1,v2⟩:=xOb h hn hm;obtain⟨S,Y,pl,X0,r1,r2,I,_⟩:=xDp h;have hSl:=I.rows.len;have hYl:=I.len;have hle:=I.le
 have tw:cG (eN s) (eQ s) (λa b=>a=b):=by
  unfold eN eQ
  rw[show B1.mk s.prime s.unknowns s.list=s from rfl];simp only[v1,v2,r1,r2,bnd_s,Bm,Af,if_false]
  rcases yO I (by omega) (by omega) with ⟨_,c1,c2⟩ | ⟨j,y,j0,j1,_,j2,c1,c2⟩
  ·simp only[c1,c2,bnd_s,Af,if_false,show decide ((0:Int)<=-1)=false from rfl,h.un,xYb (n:=n) (by omega),Ad]
   rw[pK (g:=λ(k:Nat) (u:Int) (s1:List Int)=>xG (ix Y (k:Int)) λz1=>xG (jY z1.left) λz2=>xG (ix s1 z2) λz3=>some (.go (s1.set (z2).toNat z1.right))) pl 0 0 _ (λj x s hj=>rfl)]
   refine cG.thn (λa b=>a=b) (λ_ _=>False) (cG.mono (cG.forL (λk a b=>a=b/\a.length=n) (λ_ _=>False) ⟨rfl,by simp⟩ (λk x a b hk hR=>?_)) (λa b qa=>?_)) (λa b qa=>?_) (λ_ _ h=>h.elim)
   ·obtain⟨rfl,qd⟩:=hR
    rw[Bj];have qe:=(Ac.1 hk).1;obtain⟨c,c1,c2,c3,c4⟩:=I.piv k qe;rw[hk] at c1;obtain rfl:x=(c:Int):=Option.some.inj c1;obtain⟨r,y,g1,g2,g3⟩:=I.rows.get (k:=k) (by omega);have hone:=c4 k (by omega);rw[if_pos rfl,pF g2] at hone;have qc:ix a (c:Int)=some (a[c]'(by omega)):=vE (Aa (by omega));rw[vE g1,bnd_s,xEu (by omega) g3,bnd_s,qc,bnd_s,vE g2,bnd_s,xYu (c:=c) (by rw[g3.nl];exact c2) (by rw[hone];decide) (λv hv=>by rw[<- pF g2];exact c3 v hv),bnd_s,qc,bnd_s];exact cG.s ⟨rfl,by simp [qd]⟩
   ·cases a<;>cases b<;>first | exact qa.1 | exact qa
   ·rw[qa];exact cG.s rfl
  ·have e0:decide (0<=(j:Int))=true:=by rw[Bg];omega
   simp only[c1,c2,bnd_s,e0,if_true];exact cG.s rfl
 obtain⟨a,b,t1,t2,rfl⟩:=tw;exact⟨a,t1,t2⟩
theorem xHe {n m:Nat} {s:B1} (h:SysOk p n m s) (hn:1<=n/\n<=12) (hm:m<=24):∃ r,fN s=some r/\fQ s=some r:=by
 obtain⟨v1,v2⟩:=xOb h hn hm;obtain⟨S,Y,pl,X0,r1,r2,I,_⟩:=xDp h;have hp:=h.p3
 unfold fN fQ
 rw[show B1.mk s.prime s.unknowns s.list=s from rfl];simp only[v1,v2,r1,r2,bnd_s,Bm,Af,if_false,h.pr]
 rcases yO I (by omega) (by omega) with ⟨_,c1,c2⟩ | ⟨j,y,j0,j1,j3,j2,c1,c2⟩
 ·simp only[c1,c2,bnd_s]
  exact⟨_,rfl,rfl⟩
 ·obtain⟨t1,t2,_⟩:=xNp (p:=p) ⟨by omega,hp.2⟩ j3.rb j2 (by omega) (by omega) j3
  have e0:decide ((j:Int)<0)=false:=by rw[Dw];omega
  simp only[c1,c2,bnd_s,Bm,Af,if_false,e0];rw[show rowT.mk (xAl y).numbers (xAl y).bys=xAl y from rfl,xEu (by omega) j3,bnd_s]
  unfold mX
  rw[bnd_s,t1,bnd_s,vE j1,bnd_s,t2,bnd_s];exact⟨_,rfl,rfl⟩
end
section
variable {p:Int} {e:A8} {T:Nat} {t:List Int}
def sO:List Int->List Int->Int | a::l,b::m=>a*b+sO l m | _,_=>0
theorem xNo:∀ (l m:List Int),sO l m=sO m l
 | [],[]=>rfl
 | [],_::_=>rfl
 | _::_,[]=>rfl
 | a::l,b::m=>by simp only[sO];rw[xNo l m,Int.mul_comm]
theorem xOy:∀ (l m:List Int),(∀ a∈l,gO 3 a)->(∀ a∈m,gO 3 a)->0<=sO l m/\sO l m<=4*l.length
 | [],m,_,_=>by simp [sO]
 | a::l,[],_,_=>by simp [sO];omega
 | a::l,b::m,hl,hm=>by
  have ih:=xOy l m (λx hx=>hl x (Aw _ hx)) (λx hx=>hm x (Aw _ hx));have ha:=hl a (Bh ..);have hb:=hm b (Bh ..)
  unfold gO at ha hb
  have h1:0<=a*b:=Eh ha.1 hb.1;have h2:a*b<=2*2:=Int.mul_le_mul (by omega) (by omega) hb.1 (by omega);simp only[sO,Am]
  omega
theorem xRa (f:Nat->Int):∀ n,sm (n+1) f=f 0+sm n (λi=>f (i+1))
 | 0=>by simp [sm]
 | n+1=>by
  rw[sm,xRa f n];simp only[sm]
  omega
theorem xUm:∀ (l m:List Int),l.length=m.length->sO l m=sm l.length (λc=>l.getD c 0*m.getD c 0)
 | [],[],_=>rfl
 | [],_::_,h=>by simp at h
 | _::_,[],h=>by simp at h
 | a::l,b::m,h=>by
  rw[Am,xRa];simp only[sO,Dd,Dl];rw[xUm l m (by simpa using h)]
def ext (n:Nat) (t:List Int) (c:Nat):Int:=if c<n then t.getD c 0 else -1
theorem oEd {n:Nat} (he:e.left.length=n) (ht:t.length=n):rG n (eqr e) (ext n t)=sO e.left t - e.right:=by
 unfold rG
 rw[sm,xUm _ _ (by omega),he]
 have h1:sm n (λc=>pA n (eqr e) c*ext n t c)=sm n (λc=>e.left.getD c 0*t.getD c 0):=tS (λc hc=>by
  unfold pA ext eqr
  rw[if_pos hc,if_pos hc])
 rw[h1]
 unfold pA ext
 rw[if_neg (by omega),if_neg (by omega)]
 show _+e.right * -1=_
 omega
theorem xEm {ρ:Type} (v:List Int):∀ (l m:List Int) (k:Nat) (s:Int),v.drop k=m->m.length=l.length->(∀ a∈l,gO 3 a)->(∀ a∈m,gO 3 a)->0<=s->s+4*l.length<=1000->oM (σ:=Int) (ρ:=ρ) (λk x s=>xG (ix v (k:Int)) λz=>xG (ck (x*z)) λz1=>xG (ck (s+z1)) λz2=>some (.go z2)) l k s=some (.nx (s+sO l m))
 | [],m,k,s,_,h,_,_,_,_=>by
  have:m=[]:=Bw.1 h;subst this
  simp [oM,sO]
 | a::l,[],k,s,_,h,_,_,_,_=>by simp at h
 | a::l,b::m,k,s,hd,h,hl,hm,h0,h1=>by
  have hb:v[k]?=some b:=by rw[<- Ek,hd];rfl
  have qc:v.drop (k+1)=m:=by rw[<- Eg,hd];rfl
  have ha:=hl a (Bh ..);have qa:=hm b (Bh ..)
  unfold gO at ha qa
  have p1:0<=a*b:=Eh ha.1 qa.1;have p2:a*b<=2*2:=Int.mul_le_mul (by omega) (by omega) qa.1 (by omega);rw[Am] at h1;rw[vQ (s':=s+a*b) (by rw[vE hb,bnd_s,zJ (by omega) (by omega),bnd_s,zJ (by omega) (by omega),bnd_s]),xEm v l m (k+1) (s+a*b) qc (by simpa using h) (λx hx=>hl x (Aw _ hx)) (λx hx=>hm x (Aw _ hx)) (by omega) (by omega)];simp only[sO];rw[Int.add_assoc]
theorem xSf {a:Int} (hp:2<=p/\p<=3) (ha: -10000<=a/\a<=10000):kF a p=some (a % p):=by
 have e1:rm a p=some (a.tmod p):=by unfold rm;rw[if_neg (by omega)]
 have hb: -p<a.tmod p/\a.tmod p<p/\(a.tmod p+p).tmod p=a % p:=by
  by_cases h:0<=a
  ·rw[Cm h]
   have:=Ev a (b:=p) (by omega);have:=Ec a (b:=p) (by omega);refine⟨by omega,by omega,?_⟩;rw[Cm (by omega),Int.add_emod_right,Int.emod_emod]
  ·obtain⟨b,rfl⟩:∃ b,a= -b:=⟨-a,by omega⟩
   rw[Int.neg_tmod,Cm (by omega)];have:=Ev b (b:=p) (by omega);have:=Ec b (b:=p) (by omega);refine⟨by omega,by omega,?_⟩;rw[Cm (by omega)]
   have:p=2∨p=3:=by omega
   rcases this with rfl | rfl<;>omega
 unfold kF
 rw[e1,bnd_s,zJ (by omega) (by omega),bnd_s]
 have e2:rm (a.tmod p+p) p=some ((a.tmod p+p).tmod p):=by unfold rm;rw[if_neg (by omega)]
 rw[e2,bnd_s,hb.2.2]
def xAe (p:Int) (e:A8) (t:List Int):Bool:=decide (p ∣ sO e.left t - e.right)
theorem xPl (hp:p<=3) {l:List Int} (h:∀ a∈l,gO p a):∀ a∈l,gO 3 a:=λa ha=>⟨(h a ha).1,by have:=(h a ha).2;omega⟩
theorem xNk {n:Nat} (hp:2<=p/\p<=3) (hn:n<=100) (he:xMx p n e) (ht:t.length=n/\∀ a∈t,gO p a):sC p e t=some (xAe p e t)/\gE p e t=some (xAe p e t):=by
 have b1:=xPl hp.2 he.2.1;have b2:=xPl hp.2 ht.2;have hl:=he.1;have ht1:=ht.1;have hr:=he.2.2
 unfold gO at hr
 have hd:=xOy e.left t b1 b2
 constructor
 ·unfold sC
  rw[xEm t e.left t 0 0 rfl (by omega) b1 b2 (by omega) (by omega),thn_nx]
  have:rm (0+sO e.left t) p=some ((0+sO e.left t).tmod p):=by unfold rm;rw[if_neg (by omega)]
  rw[this,bnd_s,Int.zero_add,Cm hd.1]
  congr 1
  unfold xAe
  have:p=2∨p=3:=by omega
  rw[Bool.eq_iff_iff,Cy,Bg]
  rcases this with rfl | rfl<;>omega
 ·unfold gE
  have hf:(λ(k1:Nat) (x1:Int) (s1:Int)=>xG (ix e.left (k1:Int)) λz3=>xG (ck (z3*x1)) λz4=>xG (ck (s1+z4)) λz5=>some (Ctl.go (ρ:=Bool) z5))=(λ(k:Nat) (x:Int) (s:Int)=>xG (ix e.left (k:Int)) λz=>xG (ck (x*z)) λz1=>xG (ck (s+z1)) λz2=>some (Ctl.go (ρ:=Bool) z2)):=by
   funext k x s
   congr 1
   funext z
   rw[Int.mul_comm]
  rw[hf,xEm e.left t e.left 0 0 rfl (by omega) b2 b1 (by omega) (by omega),thn_nx,Int.zero_add,xNo t e.left,zJ (by omega) (by omega),bnd_s,xSf hp (by omega),bnd_s]
  congr 1
  unfold xAe
  have:p=2∨p=3:=by omega
  rw[Bool.eq_iff_iff,Cy,Bg]
  rcases this with rfl | rfl<;>omega
theorem oBw:∀ T∈[2,3],∀ n∈[1,2,3,4,5],vA (T:Nat) (n:Nat)=some ((vH T n).length:Int)/\qD 10 (T:Nat) (n:Nat)=some ((vH T n).length:Int)/\1<=(vH T n).length/\(vH T n).length<=243/\(vH T n)[0]?=some (List.replicate n 0)/\(List.range (vH T n).length).map (λ(k:Nat)=>qQ 10 (T:Nat) (n:Nat) (k:Int))=(vH T n).map some:=by decide +kernel
theorem xUs {n k N:Nat} (hT:2<=T/\T<=3) (hn:1<=n/\n<=5) (hN:10<=N) (hk:k<(vH T n).length):qQ N (T:Int) (n:Int) (k:Int)=some (vH T n)[k]:=by
 have h:=(oBw T (by simp;omega) n (by simp;omega)).2.2.2.2.2
 have h1:((List.range (vH T n).length).map (λ(k:Nat)=>qQ 10 (T:Nat) (n:Nat) (k:Int)))[k]?=some (some (vH T n)[k]):=by
  rw[h,Ay,Aa hk]
  rfl
 rw[Ay,Dz hk] at h1;exact xAx (Option.some.inj h1) hN
def eqD (a:Nat) (d:List Int):A8:=⟨d.take a,d.getD a 0⟩
def xBk (p:Int) (ts:List (List Int)) (e:A8):Bool:=ts.all (xAe p e)
theorem xYk {a:Nat} {d:List Int} (h:d∈vH T (a+1)):xMx (T:Int) a (eqD a d):=by
 obtain⟨h1,h2⟩:=cK.1 h;refine⟨?_,λx hx=>h2 x (Dt hx),?_⟩
 ·unfold eqD;rw[Bc];omega
 ·unfold eqD
  have e:d[a]?=some (d[a]'(by omega)):=Aa (by omega);simp only;rw[kK e];exact h2 _ (Bn _)
theorem oDv {α:Type} (l:List α) (p:α->Bool):(!l.any λx=>!p x)=l.all p:=by
 induction l with
 | nil=>rfl
 | cons a l ih=>simp only[Dx,List.all_cons,Bool.not_or,ih,Bool.not_not]
theorem xKb {ρ:Type} {N T a:Nat} {r:Rel} (hT:2<=T/\T<=3) (ha:1<=a/\a<=4) (hN:10<=N) (hr:r.arity=(a:Int)) (qa:∀ t∈r.tuples,t.length=a/\∀ x∈t,gO (T:Int) x):∀ (m k:Nat) (s:List A8),k+m=(vH T (a+1)).length->s.length<=k->qM (σ:=List A8) (ρ:=ρ) (λk1 s1=>xG (qQ N (T:Int) ((a+1:Nat):Int) (k1:Int)) λz1=>xG (sl z1 0 r.arity) λz2=>xG (ix z1 r.arity) λz3=>xG (oJ r.tuples (λa0=>bE a0 (T:Int) (A8.mk z2 z3))) λz4=>if (!z4) then xG (ap s1 ([(A8.mk z2 z3)])) λz5=>some (.go z5) else some (.go s1)) m k s=some (.nx (s++(((vH T (a+1)).drop k).map (eqD a)).filter (xBk (T:Int) r.tuples)))
 | 0,k,s,hk,_=>by rw[Cp (by omega)];simp [qM]
 | m+1,k,s,hk,hs=>by
  have qc:k<(vH T (a+1)).length:=by omega
  have h1:=(oBw T (by simp;omega) (a+1) (by simp;omega)).2.2.2.1;have hm:=Bn qc;obtain⟨d1,d2⟩:=cK.1 hm
  have qd:ix (vH T (a+1))[k] (a:Int)=some ((vH T (a+1))[k].getD a 0):=by
   have e:(vH T (a+1))[k][a]?=some ((vH T (a+1))[k][a]'(by omega)):=Aa (by omega);rw[kK e];exact vE e
  have hc:oJ r.tuples (λa0=>bE a0 (T:Int) (A8.mk ((vH T (a+1))[k].take a) ((vH T (a+1))[k].getD a 0)))=some (r.tuples.any λt=>!xAe (T:Int) (eqD a (vH T (a+1))[k]) t):=tB r.tuples _ _ (λt ht=>by
   unfold bE
   rw[(xNk (n:=a) (e:=A8.mk ((vH T (a+1))[k].take a) ((vH T (a+1))[k].getD a 0)) (by omega) (by omega) (xYk hm) (qa t ht)).1,bnd_s]
   rfl)
  rw[Br qc,Da,Dv]
  have step:∀ (b:Bool),b=xBk (T:Int) r.tuples (eqD a (vH T (a+1))[k])->(xG (qQ N (T:Int) ((a+1:Nat):Int) (k:Int)) λz1=>xG (sl z1 0 r.arity) λz2=>xG (ix z1 r.arity) λz3=>xG (oJ r.tuples (λa0=>bE a0 (T:Int) (A8.mk z2 z3))) λz4=>if (!z4) then xG (ap s ([(A8.mk z2 z3)])) λz5=>some (.go z5) else some (.go s))=some (Ctl.go (ρ:=ρ) (if b then s++[eqD a (vH T (a+1))[k]] else s)):=by
   intro b hb;rw[xUs hT (by omega) hN qc,bnd_s,hr,xAy (by omega),bnd_s,qd,bnd_s,hc,bnd_s,oDv]
   unfold xBk at hb
   rw[<- hb]
   cases b
   ·rfl
   ·rw[if_pos rfl,kX (by simp only[Ak];omega),bnd_s]
    rfl
  by_cases h:xBk (T:Int) r.tuples (eqD a (vH T (a+1))[k])=true
  ·rw[zM (s':=s++[eqD a (vH T (a+1))[k]]) (by rw[step true h.symm];rfl),xKb hT ha hN hr qa m (k+1) _ (by omega) (by simp;omega),if_pos h]
   simp
  ·rw[zM (s':=s) (by rw[step false (by simpa using h)];rfl),xKb hT ha hN hr qa m (k+1) _ (by omega) (by omega),if_neg h]
def eqO (p:Int) (t0 d:List Int):A8:=⟨d,sO d t0 % p⟩
theorem xXw {a:Nat} {t0 d:List Int} (hT:2<=T) (h:d∈vH T a):xMx (T:Int) a (eqO (T:Int) t0 d):=by
 obtain⟨h1,h2⟩:=cK.1 h;exact⟨h1,h2,Ev _ (by omega),Ec _ (by omega)⟩
def xXq (p:Int) (T a:Nat) (t0:List Int) (ts:List (List Int)) (i:Nat) (w:Nat->Int):Prop:=∀ j d,1<=j->j<i->(vH T a)[j]?=some d->xBk p ts (eqO p t0 d)=true->p ∣ rG a (eqr (eqO p t0 d)) w
theorem xLn {n:Nat} {L:List A8} {w:Nat->Int}:kills p n (L++[e]) w↔kills p n L w/\p ∣ rG n (eqr e) w:=by
 constructor
 ·intro h;exact⟨λe he=>h e (by simp [he]),h e (by simp)⟩
 ·rintro ⟨h1,h2⟩ e' he
  rcases Ar.1 he with he | he
  ·exact h1 e' he
  ·rw[Bd.1 he];exact h2
theorem xLr {n:Nat} (he:e.left.length=n) (ht:t.length=n):xAe p e t=true↔p ∣ rG n (eqr e) (ext n t):=by
 rw[oEd he ht];unfold xAe;rw[Bg]
theorem xOt {ρ:Type} {N T a:Nat} {ts:List (List Int)} {t0:List Int} (hT:2<=T/\T<=3) (ha:1<=a/\a<=4) (hN:10<=N) (h0:ts[0]?=some t0) (qe:∀ t∈ts,t.length=a/\∀ x∈t,gO (T:Int) x):∀ (m k:Nat) (L:List A8),k+1+m=(vH T a).length->C3 (T:Int) a L->(∀ w,kills (T:Int) a L w↔xXq (T:Int) T a t0 ts (k+1) w)->∃ L',qM (σ:=Int×Int×(List A8)) (ρ:=ρ) (λk1 s=>match s with | (s1,s2,s3)=>xG (vZ N (T:Int) (a:Int) (1+(k1:Int))) λz3=>oZ (σ:=Int) (qM (λk2 s4=>xG (ix z3 (k2:Int)) λz4=>xG (ix ts 0) λz5=>xG (ix z5 (k2:Int)) λz6=>xG (ck (z4*z6)) λz7=>xG (ck (s4+z7)) λz8=>some (.go z8)) (a:Int).toNat 0 0) λs5=>xG (kF s5 (T:Int)) λz9=>oZ (σ:=Bool) (oM (λk3 (x1:(List Int)) s6=>oZ (σ:=Bool) (if s6 then  xG (gE (T:Int) (A8.mk z3 z9) x1) λz10=>some (.nx z10) else  some (.nx false)) λs7=>some (.go s7)) ts 0 true) λs8=>if s8 then xG (ap s3 ([(A8.mk z3 z9)])) λz11=>xG (fI (B1.mk s1 s2 z11)) λz12=>some (.go (z12.prime,z12.unknowns,z12.list)) else some (.go (s1,s2,s3))) m k ((T:Int),(a:Int),L)=some (.nx ((T:Int),(a:Int),L'))/\C3 (T:Int) a L'/\∀ w,kills (T:Int) a L' w↔xXq (T:Int) T a t0 ts (vH T a).length w
 | 0,k,L,hk,hS,hK=>⟨L,rfl,hS,by rw[<- hk];exact hK⟩
 | m+1,k,L,hk,hS,hK=>by
  have qf:k+1<(vH T a).length:=by omega
  have hd:(vH T a)[k+1]?=some (vH T a)[k+1]:=Aa qf;have hm:=Bn qf;generalize (vH T a)[k+1]=d at hd hm;obtain⟨d1,d2⟩:=cK.1 hm
  have qa:vZ N (T:Int) (a:Int) (1+(k:Int))=some d:=by
   rw[xNh,show(1+(k:Int))=((k+1:Nat):Int) by omega,xUs hT (by omega) hN qf];rw[Aa qf] at hd;rw[Option.some.inj hd]
  have t0m:=Ae h0;obtain⟨t1,t2⟩:=qe t0 t0m;have b1:=xPl (p:=(T:Int)) (by omega) d2;have b2:=xPl (p:=(T:Int)) (by omega) t2
  have qc:qM (σ:=Int) (ρ:=(Ctl (Int×Int×(List A8)) ρ)) (λk2 s4=>xG (ix d (k2:Int)) λz4=>xG (ix ts 0) λz5=>xG (ix z5 (k2:Int)) λz6=>xG (ck (z4*z6)) λz7=>xG (ck (s4+z7)) λz8=>some (.go z8)) (a:Int).toNat 0 0=some (.nx (sO d t0)):=by
   rw[Ad,<- d1,pK (g:=λ(k:Nat) (x:Int) (s:Int)=>xG (ix t0 (k:Int)) λz=>xG (ck (x*z)) λz1=>xG (ck (s+z1)) λz2=>some (.go z2)) d 0 0 0 (λj x s hj=>by
    rw[Bj,vE hj,bnd_s,show ix ts 0=some t0 from vE (i:=0) h0,bnd_s]),xEm t0 d t0 0 0 rfl (by omega) b1 b2 (by omega) (by omega),Int.zero_add]
  have hdl:=xOy d t0 b1 b2;have qg:=xXw (t0:=t0) hT.1 hm
  have qd:∀ (l:List (List Int)) (i:Nat) (b:Bool),(∀ t∈l,t∈ts)->oM (σ:=Bool) (ρ:=(Ctl (Int×Int×(List A8)) ρ)) (λk3 (x1:(List Int)) s6=>oZ (σ:=Bool) (if s6 then  xG (gE (T:Int) (A8.mk d (sO d t0 % (T:Int))) x1) λz10=>some (.nx z10) else  some (.nx false)) λs7=>some (.go s7)) l i b=some (.nx (b && l.all (xAe (T:Int) (eqO (T:Int) t0 d)))):=by
   intro l
   induction l with
   | nil=>intro i b _;simp [oM]
   | cons t l ih=>
    intro i b hl;have hh:=(xNk (e:=eqO (T:Int) t0 d) (by omega) (by omega) qg (qe t (hl t (Bh ..)))).2
    unfold eqO at hh
    rw[vQ (s':=b && xAe (T:Int) (eqO (T:Int) t0 d) t) (by
     cases b
     ·rfl
     ·simp only[if_true,hh,bnd_s,thn_nx,Db]
      rfl),ih (i+1) _ (λt ht=>hl t (Aw _ ht)),List.all_cons,Bool.and_assoc]
  have hL:=hS.len
  have up:∀ w,xXq (T:Int) T a t0 ts (k+1+1) w↔xXq (T:Int) T a t0 ts (k+1) w/\(xBk (T:Int) ts (eqO (T:Int) t0 d)=true->(T:Int) ∣ rG a (eqr (eqO (T:Int) t0 d)) w):=by
   intro w
   constructor
   ·intro h
    exact⟨λj e h1 h2=>h j e h1 (by omega),λhg=>h (k+1) d (by omega) (by omega) hd hg⟩
   ·rintro ⟨h1,h2⟩ j e j1 j2 je jg
    by_cases ej:j=k+1
    ·subst ej
     rw[hd] at je
     cases je
     exact h2 jg
    ·exact h1 j e j1 (by omega) je jg
  by_cases hg:xBk (T:Int) ts (eqO (T:Int) t0 d)=true
  ·have ext0:∀ e,xMx (T:Int) a e->xBk (T:Int) ts e=true->(T:Int) ∣ rG a (eqr e) (ext a t0):=λe he hg=>by
    unfold xBk at hg
    rw[Ci] at hg;exact(xLr he.1 t1).1 (hg t0 t0m)
   have k0:kills (T:Int) a (L++[eqO (T:Int) t0 d]) (ext a t0):=xLn.2 ⟨(hK _).2 λj e _ _ je jg=>ext0 _ (xXw hT.1 (Ae je)) jg,ext0 _ qg hg⟩
   obtain⟨L',l1,l2,l3,l4⟩:=xHp (s:=⟨(T:Int),(a:Int),L++[eqO (T:Int) t0 d]⟩) (p:=(T:Int)) (n:=a) (m:=L.length+1) ⟨rfl,by omega,rfl,by omega,by simp,by omega,λe he=>by
    rcases Ar.1 he with he | he
    ·exact hS.ok e he
    ·rw[Bd.1 he];exact qg⟩ (w:=ext a t0) (by unfold ext;rw[if_neg (by omega)]) k0
   obtain⟨L2,q1,q2,q3⟩:=xOt (ρ:=ρ) hT ha hN h0 qe m (k+1) L' (by omega) l3 (λw=>by
    rw[l4 w,xLn,hK w,up w]
    exact⟨λh=>⟨h.1,λ_=>h.2⟩,λh=>⟨h.1,h.2 hg⟩⟩)
   refine⟨L2,?_,q2,q3⟩
   rw[zM (s':=((T:Int),(a:Int),L')) (by
    simp only;rw[qa,bnd_s,qc,thn_nx,xSf (by omega) (by omega),bnd_s,qd ts 0 true (λ_ h=>h),thn_nx]
    unfold xBk at hg
    rw[hg,Bool.and_true,if_pos rfl,kX (by simp only[Ak];omega),bnd_s]
    rw[show A8.mk d (sO d t0 % (T:Int))=eqO (T:Int) t0 d from rfl,l2,bnd_s])]
   exact q1
  ·obtain⟨L2,q1,q2,q3⟩:=xOt (ρ:=ρ) hT ha hN h0 qe m (k+1) L (by omega) hS (λw=>by
    rw[hK w,up w]
    exact⟨λh=>⟨h,λg=>absurd g hg⟩,λh=>h.1⟩)
   refine⟨L2,?_,q2,q3⟩
   rw[zM (s':=((T:Int),(a:Int),L)) (by
    simp only;rw[qa,bnd_s,qc,thn_nx,xSf (by omega) (by omega),bnd_s,qd ts 0 true (λ_ h=>h),thn_nx]
    unfold xBk at hg
    have qh:ts.all (xAe (T:Int) (eqO (T:Int) t0 d))=false:=by simpa using hg
    rw[qh,Bool.and_false,if_neg (by simp)])]
   exact q1
theorem oHn {N a:Nat} {r:Rel} (hT:2<=T/\T<=3) (ha:1<=a/\a<=4) (hN:10<=N) (hr:r.arity=(a:Int)) (h1:0<r.tuples.length) (qd:∀ t∈r.tuples,t.length=a/\∀ x∈t,gO (T:Int) x):∃ L,bI N (T:Int) r=some ⟨(T:Int),(a:Int),L⟩/\pC N (T:Int) r.arity r.tuples=some ⟨(T:Int),(a:Int),L⟩/\C3 (T:Int) a L:=by
 obtain⟨t0,h0⟩:∃ t0,r.tuples[0]?=some t0:=⟨_,Aa h1⟩;have t0m:=Ae h0;obtain⟨t1,t2⟩:=qd t0 t0m;have e5:=oBw T (by simp;omega) (a+1) (by simp;omega);have ea:=oBw T (by simp;omega) a (by simp;omega);have hE:=xKb (ρ:=B1) hT ha hN hr qd (vH T (a+1)).length 0 [] (by omega) (by simp);rw[Er,Bp] at hE
 have qa:∀ e∈((vH T (a+1)).map (eqD a)).filter (xBk (T:Int) r.tuples),xMx (T:Int) a e/\xBk (T:Int) r.tuples e=true:=λe he=>by
  obtain⟨e1,e2⟩:=Cz.1 he;obtain⟨d,d1,rfl⟩:=Cv.1 e1;exact⟨xYk d1,e2⟩
 have qe:(((vH T (a+1)).map (eqD a)).filter (xBk (T:Int) r.tuples)).length<=243:=by
  refine Cj (Et ..) ?_;rw[Bu];exact e5.2.2.2.1
 generalize qi:((vH T (a+1)).map (eqD a)).filter (xBk (T:Int) r.tuples)=E at hE qa qe
 have k0:kills (T:Int) a E (ext a t0):=λe he=>by
  obtain⟨o1,o2⟩:=qa e he
  unfold xBk at o2
  rw[Ci] at o2;exact(xLr o1.1 t1).1 (o2 t0 t0m)
 obtain⟨L,l1,l2,l3,l4⟩:=xHp (s:=⟨(T:Int),(a:Int),E⟩) (p:=(T:Int)) (n:=a) (m:=E.length) ⟨rfl,by omega,rfl,by omega,rfl,by omega,λe he=>(qa e he).1⟩ (w:=ext a t0) (by unfold ext;rw[if_neg (by omega)]) k0;obtain⟨L',q1,q2,q3⟩:=xOt (ρ:=B1) hT ha hN h0 qd ((vH T a).length - 1) 0 [] (by omega) (xWf _ _) (λw=>⟨λ_ j d j1 j2=>by omega,λ_ e he=>by simp at he⟩)
 have qj:∀ w,kills (T:Int) a E w↔xXq (T:Int) T a t0 r.tuples (vH T a).length w:=by
  intro w
  constructor
  ·intro h j d j1 j2 jd jg
   refine h _ ?_;rw[<- qi];refine Cz.2 ⟨Cv.2 ⟨d++[sO d t0 % (T:Int)],?_,?_⟩,jg⟩
   ·obtain⟨d1,d2⟩:=cK.1 (Ae jd)
    refine cK.2 ⟨by simp [d1],λx hx=>?_⟩
    rcases Ar.1 hx with hx | hx
    ·exact d2 x hx
    ·rw[Bd.1 hx]
     exact⟨Ev _ (by omega),Ec _ (by omega)⟩
   ·have d1:=(cK.1 (Ae jd)).1
    unfold eqD eqO
    rw[Cu (by omega),Ck (by omega)]
    congr 1
    exact kK (by rw[Bb (by omega),d1,Ed];rfl)
  ·intro h e he
   obtain⟨o1,o2⟩:=qa e he;have hl:e.left∈vH T a:=cK.2 ⟨o1.1,o1.2.1⟩
   have qf:e=eqO (T:Int) t0 e.left:=by
    have o3:=o2
    unfold xBk at o3
    rw[Ci] at o3;have:=o3 t0 t0m
    unfold xAe at this
    rw[Bg] at this;have hb:=o1.2.2
    unfold gO at hb
    cases e with
    | mk left right=>
     unfold eqO
     simp only at this hb ⊢
     congr 1
     have qk:T=2∨T=3:=by omega
     rcases qk with rfl | rfl<;>omega
   obtain⟨j,hj,ql⟩:=Bx hl
   have qg:(vH T a)[j]?=some e.left:=by rw[Aa hj,ql]
   by_cases j0:j=0
   ·subst j0
    rw[ea.2.2.2.2.1] at qg;have hz:e.left=List.replicate a 0:=(Option.some.inj qg).symm
    have qm:∀ (n:Nat) (m:List Int),sO (List.replicate n 0) m=0:=by
     intro n
     induction n with
     | zero=>intro m;rfl
     | succ n ih=>intro m;cases m with
      | nil=>rfl
      | cons b m=>rw[De,sO,ih];omega
    have qn:e.right=0:=by
     rw[qf];unfold eqO;simp only;rw[hz,qm];simp
    have:rG a (eqr e) w=0:=by
     unfold rG
     refine xCl λc hc=>?_
     unfold pA eqr
     by_cases qh:c<a
     ·rw[if_pos qh]
      simp only;rw[hz,show(List.replicate a (0:Int)).getD c 0=0 from kK (by rw[Dg,if_pos qh]),Int.zero_mul]
     ·rw[if_neg qh]
      simp only;rw[qn,Int.zero_mul]
    rw[this];exact Int.dvd_zero _
   ·have:=h j e.left (by omega) hj qg (by rw[<- qf];exact o2)
    rw[<- qf] at this;exact this
 have qc:L=L':=l3.uniq (by omega) q2 (λw=>by rw[l4 w,q3 w];exact qj w);subst qc;refine⟨L,?_,?_,l3⟩
 ·unfold bI
  rw[hr,zJ (by omega) (by omega),bnd_s,show((a:Int)+1)=((a+1:Nat):Int) by omega,e5.1,bnd_s,Ad];rw[hr] at hE;rw[hE,thn_nx,l1,bnd_s]
 ·unfold pC
  rw[hr,(show qD N (T:Int) (a:Int)=some ((vH T a).length:Int) from xDi ea.2.1 hN),bnd_s,show(((vH T a).length:Int) - 1).toNat=(vH T a).length - 1 by omega,q1,thn_nx]
end
end Go.Proofs.YtnjlbbfcngjhmaaGreat
