import Derived.ProofKit
import Derived.OpenShut
import Derived.Deep.Slices
import Derived.Deep.Fields
import Derived.Test.YtnjlbbfcngjhmaaGreatRows
import Derived.Test.YtnjlbbfcngjhmaaGreatMQL
namespace Go.Proofs.YtnjlbbfcngjhmaaGreat
set_option linter.unusedVariables false
set_option linter.unusedSimpArgs false
section
variable {t:A6}
def xOv (p:Int):List Int->List Int->List Int->List Int | v::sc,a::l,s=>xOv p sc l (s.set v.toNat ((s.getD v.toNat 0+a).tmod p)) | _,_,s=>s
theorem own_step {p:Int} {n:Nat} {v a:Int} {s:List Int} (hp:2<=p/\p<=3) (hv:0<=v/\v<(n:Int)) (ha:gO p a) (hs:s.length=n) (hb:∀ x∈s,gO p x):ix s v=some (s.getD v.toNat 0)/\ck (s.getD v.toNat 0+a)=some (s.getD v.toNat 0+a)/\rm (s.getD v.toNat 0+a) p=some ((s.getD v.toNat 0+a).tmod p)/\(s.set v.toNat ((s.getD v.toNat 0+a).tmod p)).length=n/\∀ x∈s.set v.toNat ((s.getD v.toNat 0+a).tmod p),gO p x:=by
 have qa:v.toNat<s.length:=by omega
 have hg:s[v.toNat]?=some (s[v.toNat]'qa):=Aa qa;have he:s.getD v.toNat 0=s[v.toNat]'qa:=kK hg;have hx:=hb _ (Bn qa);rw[<- he] at hx
 unfold gO at hx ha
 refine⟨lK hv.1 (by rw[he];exact hg),zJ (by omega) (by omega),?_,by simp [hs],λx qc=>?_⟩
 ·unfold rm;rw[if_neg (by omega)]
 ·rcases Cx qc with h | rfl
  ·exact hb x h
  ·rw[Cm (by omega)]
   exact⟨Ev _ (by omega),Ec _ (by omega)⟩
theorem own_impl {ρ : Type} {p : Int} {n : Nat} (e : List Int) (hp : 2<=p/\p<=3) : ∀ (sc l : List Int) (k : Nat) (s : List Int), e.drop k = l->l.length = sc.length->(∀ v ∈ sc, 0<=v/\v < (n : Int))->(∀ a ∈ l, gO p a)->s.length = n->(∀ x ∈ s, gO p x)->oM (σ := List Int) (ρ := ρ) (λk1 (x1 : Int) (s1 : (List Int)) =>xG (ix s1 x1) λz1=>xG (ix e (k1:Int)) λz2=>xG (ck (z1+z2)) λz3=>xG (rm z3 p) λz4=>some (.go (s1.set (x1).toNat z4))) sc k s=some (.nx (xOv p sc l s))/\(xOv p sc l s).length=n/\∀ x∈xOv p sc l s,gO p x
 | [],l,k,s,_,_,_,_,hs,hb=>by
  cases l<;>exact⟨rfl,hs,hb⟩
 | v::sc,[],k,s,_,h,_,_,_,_=>by simp at h
 | v::sc,a::l,k,s,hd,h,hv,ha,hs,hb=>by
  have hx:e[k]?=some a:=by rw[<- Ek,hd];rfl
  have qc:e.drop (k+1)=l:=by rw[<- Eg,hd];rfl
  obtain⟨o1,o2,o3,o4,o5⟩:=own_step hp (hv v (Bh ..)) (ha a (Bh ..)) hs hb;rw[vQ (s':=s.set v.toNat ((s.getD v.toNat 0+a).tmod p)) (by rw[o1,bnd_s,vE hx,bnd_s,o2,bnd_s,o3,bnd_s])];exact own_impl e hp sc l (k+1) _ qc (by simpa using h) (λv qa=>hv v (Aw _ qa)) (λv qa=>ha v (Aw _ qa)) o4 o5
theorem own_spec {ρ : Type} {p : Int} {n : Nat} (sc0 : List Int) (hp : 2<=p/\p<=3) : ∀ (l sc : List Int) (k : Nat) (s : List Int), sc0.drop k = sc->l.length = sc.length->(∀ v ∈ sc, 0<=v/\v < (n : Int))->(∀ a ∈ l, gO p a)->s.length = n->(∀ x ∈ s, gO p x)->oM (σ := List Int) (ρ := ρ) (λk1 (x1 : Int) (s1 : (List Int)) =>xG (ix sc0 (k1:Int)) λz1=>xG (ix s1 z1) λz2=>xG (ck (z2+x1)) λz3=>xG (rm z3 p) λz4=>some (.go (s1.set (z1).toNat z4))) l k s=some (.nx (xOv p sc l s))
 | [],sc,k,s,_,h,_,_,_,_=>by
  have:sc=[]:=Bw.1 h.symm;subst this
  rfl
 | a::l,[],k,s,_,h,_,_,_,_=>by simp at h
 | a::l,v::sc,k,s,hd,h,hv,ha,hs,hb=>by
  have hx:sc0[k]?=some v:=by rw[<- Ek,hd];rfl
  have qc:sc0.drop (k+1)=sc:=by rw[<- Eg,hd];rfl
  obtain⟨o1,o2,o3,o4,o5⟩:=own_step hp (hv v (Bh ..)) (ha a (Bh ..)) hs hb;rw[vQ (s':=s.set v.toNat ((s.getD v.toNat 0+a).tmod p)) (by rw[vE hx,bnd_s,o1,bnd_s,o2,bnd_s,o3,bnd_s])];exact own_spec sc0 hp l sc (k+1) _ qc (by simpa using h) (λv qa=>hv v (Aw _ qa)) (λv qa=>ha v (Aw _ qa)) o4 o5
def uR (t:A6) (c:Con):Rel:=(ix t.rels c.rel).getD ⟨0,[]⟩
def eqC (p:Int) (n:Nat) (c:Con) (e:A8):A8:=⟨xOv p c.scope e.left (List.replicate n 0),e.right⟩
def xIo (N:Nat) (t:A6) (n:Nat) (c:Con):List A8:=((bI N t.size (uR t c)).getD ⟨0,0,[]⟩).list.map (eqC t.size n c)
theorem xLe {p:Int} {n:Nat} (hp:2<=p):∀ x∈List.replicate n (0:Int),gO p x:=λx hx=>by rw[Ca hx];exact⟨by omega,by omega⟩
theorem xOw {ρ:Type} {N T n:Nat} {c:Con} (hT:2<=T/\T<=3) (hu:TV T t) (hN:10<=N) (hn:n<=400) (hc:CV t (n:Int) c) (ha:yH N T (uR t c)=true) :
 ∃ S,bI N t.size (uR t c)=some S/\pC N t.size (uR t c).arity (uR t c).tuples=some S/\S.list.map (eqC t.size n c)=xIo N t n c/\(xIo N t n c).length<=4/\(∀ e∈xIo N t n c,xMx (T:Int) n e) ∧
 ∀ s:List A8,s.length<=1000->
  oM (σ:=List A8) (ρ:=ρ) (λk1 (x1:A8) s1=>xG (pN (0:Int) (n:Int)) λz1=>oZ (σ:=List Int) (oM (λk2 (x2:Int) s2=>xG (ix s2 x2) λz2=>xG (ix x1.left (k2:Int)) λz3=>xG (ck (z2+z3)) λz4=>xG (rm z4 t.size) λz5=>some (.go (s2.set (x2).toNat z5))) c.scope 0 z1) λs3=>xG (ap s1 ([(A8.mk s3 x1.right)])) λz6=>some (.go z6)) S.list 0 s=some (.nx (s++xIo N t n c)) ∧
  oM (σ:=List A8) (ρ:=ρ) (λk3 (x3:A8) s4=>xG (pN (0:Int) (n:Int)) λz7=>oZ (σ:=List Int) (oM (λk4 (x4:Int) s5=>xG (ix c.scope (k4:Int)) λz8=>xG (ix s5 z8) λz9=>xG (ck (z9+x4)) λz10=>xG (rm z10 t.size) λz11=>some (.go (s5.set (z8).toNat z11))) x3.left 0 z7) λs6=>xG (ap s4 ([(A8.mk s6 x3.right)])) λz12=>some (.go z12)) S.list 0 s=some (.nx (s++xIo N t n c)):=by
 obtain⟨hv,r,r0,r1,r2,r3⟩:=hc
 have qa:uR t c=r:=by unfold uR;rw[lK r0 r1];rfl
 rw[qa] at ha ⊢;obtain⟨a,q1,q2,q3,q4,q5⟩:=hu.r r r2
 have hp:2<=(T:Int)/\(T:Int)<=3:=by omega
 have qc:0<r.tuples.length:=by
  unfold yH at ha
  rw[Ba,Bg] at ha
  omega
 obtain⟨L,l1,l2,l3⟩:=oHn (N:=N) hT ⟨q2,q3⟩ hN q1 qc (λx hx=>cK.1 (q5 x hx));have qd:=hu.s
 have qe:c.scope.length=a:=by omega
 have he:xIo N t n c=L.map (eqC t.size n c):=by unfold xIo;rw[qa,qd,l1];rfl
 have hL:=l3.len;rw[qd] at he ⊢
 have ok1 : ∀ e ∈ L, oM (σ := List Int) (ρ := (Ctl ((List A8)) ρ)) (λk2 (x2 : Int) s2 =>xG (ix s2 x2) λz2=>xG (ix e.left (k2:Int)) λz3=>xG (ck (z2+z3)) λz4=>xG (rm z4 (T:Int)) λz5=>some (.go (s2.set (x2).toNat z5))) c.scope 0 (List.replicate n 0)=some (.nx (xOv (T:Int) c.scope e.left (List.replicate n 0)))/\(xOv (T:Int) c.scope e.left (List.replicate n 0)).length=n/\∀ x∈xOv (T:Int) c.scope e.left (List.replicate n 0),gO (T:Int) x:=λe he=>
  own_impl e.left hp c.scope e.left 0 (List.replicate n 0) rfl (by rw[(l3.ok e he).1,qe]) hv (l3.ok e he).2.1 (by simp) (xLe hp.1)
 refine⟨_,l1,l2,he.symm,by rw[he,Bu];omega,λe qf=>?_,λs hs=>⟨?_,?_⟩⟩
 ·rw[he] at qf
  obtain⟨e0,m1,rfl⟩:=Cv.1 qf;obtain⟨_,o2,o3⟩:=ok1 e0 m1;exact⟨o2,o3,(l3.ok e0 m1).2.2⟩
 ·have key:∀ (l:List A8) (k:Nat) (s:List A8),(∀ e∈l,e∈L)->s.length+l.length<=2000->oM (σ:=List A8) (ρ:=ρ) (λk1 (x1:A8) s1=>xG (pN (0:Int) (n:Int)) λz1=>oZ (σ:=List Int) (oM (λk2 (x2:Int) s2=>xG (ix s2 x2) λz2=>xG (ix x1.left (k2:Int)) λz3=>xG (ck (z2+z3)) λz4=>xG (rm z4 (T:Int)) λz5=>some (.go (s2.set (x2).toNat z5))) c.scope 0 z1) λs3=>xG (ap s1 ([(A8.mk s3 x1.right)])) λz6=>some (.go z6)) l k s=some (.nx (s++l.map (eqC (T:Int) n c))):=by
   intro l
   induction l with
   | nil=>intro k s _ _;simp [oM]
   | cons e l ih=>
    intro k s hl hs;rw[Am] at hs
    rw[vQ (s':=s++[eqC (T:Int) n c e]) (by
     rw[xYb hn,bnd_s,(ok1 e (hl e (Bh ..))).1,thn_nx,kX (by simp only[Ak];omega),bnd_s]
     rfl),ih (k+1) _ (λe he=>hl e (Aw _ he)) (by simp;omega)]
    simp
  rw[he];exact key L 0 s (λ_ h=>h) (by omega)
 ·have key : ∀ (l : List A8) (k : Nat) (s : List A8), (∀ e ∈ l, e ∈ L)->s.length + l.length<=2000->oM (σ := List A8) (ρ := ρ) (λk3 (x3 : A8) s4 =>xG (pN (0:Int) (n:Int)) λz7=>oZ (σ:=List Int) (oM (λk4 (x4:Int) s5=>xG (ix c.scope (k4:Int)) λz8=>xG (ix s5 z8) λz9=>xG (ck (z9+x4)) λz10=>xG (rm z10 (T:Int)) λz11=>some (.go (s5.set (z8).toNat z11))) x3.left 0 z7) λs6=>xG (ap s4 ([(A8.mk s6 x3.right)])) λz12=>some (.go z12)) l k s=some (.nx (s++l.map (eqC (T:Int) n c))):=by
   intro l
   induction l with
   | nil=>intro k s _ _;simp [oM]
   | cons e l ih=>
    intro k s hl hs;rw[Am] at hs;have eo:=l3.ok e (hl e (Bh ..))
    rw[vQ (s':=s++[eqC (T:Int) n c e]) (by
     rw[xYb hn,bnd_s,own_spec c.scope hp e.left c.scope 0 (List.replicate n 0) rfl (by rw[eo.1,qe]) hv eo.2.1 (by simp) (xLe hp.1),thn_nx,kX (by simp only[Ak];omega),bnd_s]
     rfl),ih (k+1) _ (λe he=>hl e (Aw _ he)) (by simp;omega)]
    simp
  rw[he];exact key L 0 s (λ_ h=>h) (by omega)
theorem xOu {N T:Nat} {x:A7} (hu:TV T t) (hv:1<=x.vars/\x.vars<=10) (hl:x.cons.length<=24) (hC:∀ c∈x.cons,CV t x.vars c) (hN:10<=N):∃ r,lF N t x=some r/\iD N t x=some r/\(r.2=0->∃ n m,SysOk (T:Int) n m r.1/\(1<=n/\n<=10)/\m<=24):=by
 have qh:=hu.s;have hT4:=hu.t
 by_cases hp:(t.size==2 || t.size==3)=true
 ·have hT:2<=T/\T<=3:=by
   rw[Bool.or_eq_true,Cy,Cy] at hp
   omega
  obtain⟨n,hn⟩:∃ n:Nat,x.vars=(n:Int):=⟨x.vars.toNat,by omega⟩
  have qg:∀ c∈x.cons,CV t (n:Int) c:=λc hc=>by rw[<- hn];exact hC c hc
  have qc:∀ c∈x.cons,ix t.rels c.rel=some (uR t c)/\uR t c∈t.rels:=λc hc=>by
   obtain⟨_,r,r0,r1,r2,_⟩:=hC c hc
   have:uR t c=r:=by unfold uR;rw[lK r0 r1];rfl
   rw[this];exact⟨lK r0 r1,r2⟩
  have qa:∀ c∈x.cons,eF N t.size (uR t c)=some (yH N T (uR t c))/\gI N t.size (uR t c)=some (yH N T (uR t c)):=λc hc=>by
   rw[qh];exact xLw hu (qc c hc).2 hN
  have qj:vK x.cons (λa0=>iZ N a0 (A6.mk t.size t.rels))=some (x.cons.any λc=>!yH N T (uR t c)):=yL x.cons _ _ (λc hc=>by
   unfold iZ
   simp only[(qc c hc).1,bnd_s,show ∀ r:Rel,Rel.mk r.arity r.tuples=r from λ_=>rfl,(qa c hc).1])
  have qd:∀ (l:List Con) (k:Nat) (s:List A8),(∀ c∈l,c∈x.cons)->s.length+4*l.length<=500->oM (σ:=List A8) (ρ:=B1×Int) (λk1 (x1:Con) s7=>xG (ix t.rels x1.rel) λz1=>xG (gI N t.size z1) λz2=>if (!z2) then some (.ret ((B1.mk 0 0 ([])),4)) else xG (pC N t.size z1.arity z1.tuples) λz3=>oZ (σ:=List A8) (oM (λk2 (x2:A8) s8=>xG (pN (0:Int) x.vars) λz4=>oZ (σ:=List Int) (oM (λk3 (x3:Int) s9=>xG (ix x1.scope (k3:Int)) λz5=>xG (ix s9 z5) λz6=>xG (ck (z6+x3)) λz7=>xG (rm z7 t.size) λz8=>some (.go (s9.set (z5).toNat z8))) x2.left 0 z4) λs10=>xG (ap s8 ([(A8.mk s10 x2.right)])) λz9=>some (.go z9)) z3.list 0 s7) λs11=>some (.go s11)) l k s=if l.any (λc=>!yH N T (uR t c)) then some (.ret ((B1.mk 0 0 ([])),4)) else some (.nx (s++l.flatMap (xIo N t n))):=by
   intro l
   induction l with
   | nil=>intro k s _ _;simp [oM]
   | cons c l ih=>
    intro k s hl hs;rw[Am] at hs;have hc:=hl c (Bh ..)
    by_cases ha:yH N T (uR t c)=true
    ·obtain⟨S,s1,s2,s3,s4,s5,s6⟩:=xOw (ρ:=Ctl ((List A8)) (B1×Int)) hT hu hN (by omega) (qg c hc) ha
     rw[vQ (s':=s++xIo N t n c) (by
      simp only[(qc c hc).1,bnd_s,(qa c hc).2,ha,Bm,Af,if_false,s2,hn]
      rw[(s6 s (by omega)).2,thn_nx]),ih (k+1) _ (λc hc=>hl c (Aw _ hc)) (by rw[Aq];omega)]
     simp [ha]
    ·have qi:yH N T (uR t c)=false:=by simpa using ha
     rw[fP (r:=(B1.mk 0 0 [],4)) (by
      simp only[(qc c hc).1,bnd_s,(qa c hc).2,qi,Cl,if_true])]
     simp [qi]
  have qe:∀ (l:List Con) (k:Nat) (s:List A8),(∀ c∈l,c∈x.cons)->(∀ c∈l,yH N T (uR t c)=true)->s.length+4*l.length<=500->oM (σ:=List A8) (ρ:=B1×Int) (λk4 (x4:Con) s12=>xG (ix t.rels x4.rel) λz10=>xG (bI N t.size z10) λz11=>oZ (σ:=List A8) (oM (λk5 (x5:A8) s13=>xG (pN (0:Int) x.vars) λz12=>oZ (σ:=List Int) (oM (λk6 (x6:Int) s14=>xG (ix s14 x6) λz13=>xG (ix x5.left (k6:Int)) λz14=>xG (ck (z13+z14)) λz15=>xG (rm z15 t.size) λz16=>some (.go (s14.set (x6).toNat z16))) x4.scope 0 z12) λs15=>xG (ap s13 ([(A8.mk s15 x5.right)])) λz17=>some (.go z17)) z11.list 0 s12) λs16=>some (.go s16)) l k s=some (.nx (s++l.flatMap (xIo N t n))):=by
   intro l
   induction l with
   | nil=>intro k s _ _ _;simp [oM]
   | cons c l ih=>
    intro k s hl ha hs;rw[Am] at hs;have hc:=hl c (Bh ..);obtain⟨S,s1,s2,s3,s4,s5,s6⟩:=xOw (ρ:=Ctl ((List A8)) (B1×Int)) hT hu hN (by omega) (qg c hc) (ha c (Bh ..))
    rw[vQ (s':=s++xIo N t n c) (by
     simp only[(qc c hc).1,bnd_s,s1,hn]
     rw[(s6 s (by omega)).1,thn_nx]),ih (k+1) _ (λc hc=>hl c (Aw _ hc)) (λc hc=>ha c (Aw _ hc)) (by rw[Aq];omega)]
    simp
  unfold lF iD
  rw[(pG t.size).1,(pG t.size).2,hp,qj];simp only[bnd_s,Bm,Af,if_false,thn_nx];rw[qd x.cons 0 [] (λ_ h=>h) (by simp;omega)]
  by_cases ha:(x.cons.any λc=>!yH N T (uR t c))=true
  ·rw[if_pos ha,if_pos ha,thn_ret]
   exact⟨_,rfl,rfl,λh=>by simp at h⟩
  ·have qf:∀ c∈x.cons,yH N T (uR t c)=true:=λc hc=>by
    refine Classical.byContradiction λh=>ha (List.any_eq_true.2 ⟨c,hc,by simpa using h⟩)
   rw[if_neg ha,if_neg ha,qe x.cons 0 [] (λ_ h=>h) qf (by simp;omega),thn_nx,Bp]
   by_cases h1:(24:Int)<((x.cons.flatMap (xIo N t n)).length:Int)
   ·rw[if_pos (by rw[Bg];exact h1)]
    exact⟨_,rfl,rfl,λh=>by simp at h⟩
   ·rw[if_neg (by rw[Bg];exact h1)]
    refine⟨_,rfl,rfl,λ_=>⟨n,_,⟨qh,by omega,hn,by omega,rfl,by simp only;omega,λe he=>?_⟩,by omega,by simp only;omega⟩⟩;obtain⟨c,hc,he⟩:=List.mem_flatMap.1 he;obtain⟨S,s1,s2,s3,s4,s5,s6⟩:=xOw (ρ:=Unit) hT hu hN (by omega) (qg c hc) (qf c hc);exact s5 e he
 ·have qk:(t.size==2 || t.size==3)=false:=by simpa using hp
  unfold lF iD
  rw[(pG t.size).1,(pG t.size).2,qk];exact⟨_,rfl,rfl,λh=>by simp at h⟩
theorem xId {N T:Nat} {x:A7} (ht:nF t) (hi:sU t x=true) (hu:TV T t) (hN:10<=N):∃ r,cM N t x=some r/\cN N t x=some r:=by
 obtain⟨hv,hl,hC⟩:=xIw hi;obtain⟨i1,i2⟩:=xFn (t:=t) (x:=x) ht;obtain⟨r,s1,s2,s3⟩:=xOu (N:=N) hu hv hl hC hN
 unfold cM cN rQ
 simp only[show A6.mk t.size t.rels=t from rfl,show A7.mk x.vars x.cons=x from rfl,i1,i2,hi,s1,s2,bnd_s,Bm,Af,if_false]
 by_cases h0:r.2=0
 ·obtain⟨n,m,hs,hn,hm⟩:=s3 h0
  obtain⟨a,a1,a2⟩:=xIi hs ⟨hn.1,by omega⟩ hm;obtain⟨b,b1,b2⟩:=xHe hs ⟨hn.1,by omega⟩ hm
  have e0:(r.2 != 0)=false:=by rw[h0];rfl
  simp only[e0,Af,if_false,show B1.mk r.1.prime r.1.unknowns r.1.list=r.1 from rfl,a1,a2,b1,b2,bnd_s]
  split<;>exact⟨_,rfl,rfl⟩
 ·have e0:(r.2 != 0)=true:=by rw[bne_iff_ne];exact h0
  simp only[e0,if_true];exact⟨_,rfl,rfl⟩
end
section
variable {d:List Int} {p:Nat} {T:Nat}
def iY (r:Rel) (d:List Int):List (List Int):=d.map λj=>r.tuples.getD j.toNat []
def eV (T n:Nat) (fS:List (List Int)):List Int:=(List.range' 0 n).map λp=>zV T (col fS p)
def toC (l:lookT):B4:=⟨l.rel,l.cells⟩
def wK (D:List (List lookT)):List (List B4):=D.map (List.map toC)
def inS (T:Nat) (r:Rel):List Bool:=xLj T r.tuples (List.replicate (T ^ r.arity.toNat) false)
structure CondOk (rels:List Rel) (p:Nat) (c:lookT):Prop where
  ex:∃ (k n:Nat) (r:Rel),c.rel=(k:Int)/\rels[k]?=some r/\r∈rels/\r.arity=(n:Int)/\c.cells.length=n
  le:∀ a∈c.cells,0<=a/\a<=(p:Int)
structure DueOk (T m:Nat) (rels:List Rel) (B:Nat) (D:List (List lookT)):Prop where
  ln:D.length=T ^ m
  ok:∀ (p:Nat) l,D[p]?=some l->∀ c∈l,CondOk rels p c
  le:∀ (p:Nat) l,D[p]?=some l->l.length<=B
theorem xUc {D:List (List lookT)} {l:List lookT} (h:D[p]?=some l):(wK D)[p]?=some (l.map toC):=by unfold wK;rw[Ay,h];rfl
theorem xZx {D:List (List lookT)} {l:List lookT} {c:lookT}:(wK D).set p (l.map toC++[toC c])=wK (D.set p (l++[c])):=by
 unfold wK
 rw[List.map_set]
 simp
theorem xTg {n:Nat} {r:Rel} (hr:∀ t∈r.tuples,bK T t/\t.length=n) (hd:∀ a∈d,0<=a/\a<(r.tuples.length:Int)):∀ t∈iY r d,bK T t/\t.length=n:=by
 intro t ht;obtain⟨j,hj,rfl⟩:=Cv.1 ht;have:=hd j hj
 have qa:j.toNat<r.tuples.length:=by omega
 rw[Ao,Aa qa,Eb];exact hr _ (Bn qa)
theorem xEo {r:Rel}:col (iY r d) p=d.map λj=>(r.tuples.getD j.toNat []).getD p 0:=by
 unfold col iY
 rw[List.map_map]
 rfl
theorem xYq {n:Nat} {r:Rel} {x:Int} (hr:∀ t∈r.tuples,bK T t/\t.length=n) (hd:∀ a∈d,0<=a/\a<(r.tuples.length:Int)) (hp:p<n) (hx:x∈d):ix r.tuples x=some (r.tuples.getD x.toNat [])/\ix (r.tuples.getD x.toNat []) (p:Int)=some ((r.tuples.getD x.toNat []).getD p 0):=by
 have:=hd x hx
 have qa:x.toNat<r.tuples.length:=by omega
 have e:r.tuples.getD x.toNat []=r.tuples[x.toNat]:=by rw[Ao,Aa qa,Eb]
 have hl:=(hr _ (Bn qa)).2;rw[e];refine⟨lK this.1 (Aa qa),?_⟩;have e2:(r.tuples[x.toNat])[p]?=some ((r.tuples[x.toNat])[p]'(by omega)):=Aa (by omega);rw[kK e2];exact vE e2
theorem xVf {ρ : Type} {n m : Nat} {r : Rel} (qa : 1<=T/\T<=4) (hr : ∀ t ∈ r.tuples, bK T t/\t.length = n) (hd : ∀ a ∈ d, 0<=a/\a < (r.tuples.length : Int)) (hp : p < n) (hm : d.length = m) (h3 : m<=3) : oM (σ := Int) (ρ := ρ) (λk1 x1 s1 =>xG (ck (s1*(T:Int))) λz1=>xG (ix r.tuples x1) λz2=>xG (ix z2 (p:Int)) λz3=>xG (ck (z1+z3)) λz4=>some (.go z4)) d 0 0=some (.nx (zV T (col (iY r d) p))):=by
 have hs:=xTg hr hd;have qc:=xCa qa hs p
 rw[uZ (λj=>(r.tuples.getD j.toNat []).getD p 0) (b':=λ(k2:Nat) (x2:Int) (s2:Int)=>xG (ck (s2*(T:Int))) λz5=>xG (ck (z5+x2)) λz6=>some (.go z6)) d 0 0 (λi x s hx=>by
  obtain⟨t1,t2⟩:=xYq hr hd hp hx
  simp only[t1,t2,bnd_s]),<- xEo]
 have hl:(col (iY r d) p).length=m:=by rw[xEo,Bu,hm]
 refine wX qa _ 0 0 qc (by omega) ?_;have:=rD (T:=T) (k:=(col (iY r d) p).length) qa (by omega)
 omega
theorem xVo {ρ : Type} {n m : Nat} {r : Rel} (hr : ∀ t ∈ r.tuples, bK T t/\t.length = n) (hd : ∀ a ∈ d, 0<=a/\a < (r.tuples.length : Int)) (hp : p < n) (hm : d.length = m) (h3 : m<=3) : qM (σ := List Int) (ρ := ρ) (λk1 s1 =>xG (ix d (k1:Int)) λz1=>xG (ix r.tuples z1) λz2=>xG (ix z2 (p:Int)) λz3=>xG (ap s1 ([z3])) λz4=>some (.go z4)) (m:Int).toNat 0 []=some (.nx (col (iY r d) p)):=by
 rw [Ad, <- hm, pK (g := λ(k : Nat) (x : Int) (s : List Int) =>xG (ix r.tuples x) λz2=>xG (ix z2 (p:Int)) λz3=>xG (ap s ([z3])) λz4=>some (.go z4)) d 0 0 [] (λj x s hj=>by rw[Bj,vE hj,bnd_s])]
 rw[mQ d (λj=>(r.tuples.getD j.toNat []).getD p 0) (λi x s hx hs=>by
  obtain⟨t1,t2⟩:=xYq hr hd hp (Ae hx);have:=(Ac.1 hx).1
  rw[t1,bnd_s,t2,bnd_s,kX (by simp only[Ak];omega),bnd_s]) d 0 [] rfl rfl,Bp,<- xEo]
theorem xWq (a b:Int):lX a b=some (if b<a then a else b):=by
 unfold lX
 by_cases h:b<a
 ·rw[if_pos (by simpa using h),if_pos h]
 ·rw[if_neg (by simpa using h),if_neg h]
theorem xSj {ρ : Type} {n m : Nat} {r : Rel} (qa : 1<=T/\T<=4) (hn : n<=4) (hr : ∀ t ∈ r.tuples, bK T t/\t.length = n) (hd : ∀ a ∈ d, 0<=a/\a < (r.tuples.length : Int)) (hm : d.length = m) (h3 : m<=3) : qM (σ := List Int) (ρ := ρ) (λk1 s1 =>oZ (σ:=Int) (oM (λk2 x1 s2=>xG (ck (s2*(T:Int))) λz1=>xG (ix r.tuples x1) λz2=>xG (ix z2 (k1:Int)) λz3=>xG (ck (z1+z3)) λz4=>some (.go z4)) d 0 0) λs3=>xG (ap s1 ([s3])) λz5=>some (.go z5)) n 0 []=some (.nx (eV T n (iY r d))):=by
 rw[sE (n:=n) (λp=>zV T (col (iY r d) p)) (λi s hi hs=>by
  rw[xVf qa hr hd hi hm h3,thn_nx,kX (by simp only[Ak];omega),bnd_s]) n 0 [] rfl (by omega)]
 rfl
theorem xKi {ρ : Type} {T n m : Nat} {r : Rel} {d : List Int} (qa : 1<=T/\T<=4) (hn : n<=4) (hr : ∀ t ∈ r.tuples, bK T t/\t.length = n) (hd : ∀ a ∈ d, 0<=a/\a < (r.tuples.length : Int)) (hm : d.length = m) (h3 : m<=3) : ∀ (q k : Nat) (s : Int) (l : List Int), k + q = n->l.length = k->qM (σ := Int × (List Int)) (ρ := ρ) (λk1 s =>match s with | (s1,s2)=>oZ (σ:=List Int) (qM (λk2 s3=>xG (ix d (k2:Int)) λz1=>xG (ix r.tuples z1) λz2=>xG (ix z2 (k1:Int)) λz3=>xG (ap s3 ([z3])) λz4=>some (.go z4)) (m:Int).toNat 0 []) λs4=>xG (kV (T:Int) s4) λz5=>xG (ap s2 ([z5])) λz6=>xG (lX s1 z5) λz7=>some (.go (z7,z6))) q k (s,l)=some (.nx (((List.range' k q).map λp=>zV T (col (iY r d) p)).foldl (λs x=>if x<s then s else x) s,l++(List.range' k q).map λp=>zV T (col (iY r d) p)))
 | 0,k,s,l,_,_=>by simp [qM]
 | q+1,k,s,l,hk,hl=>by
  have hs:=xTg hr hd
  have hcl:(col (iY r d) k).length=m:=by rw[xEo,Bu,hm]
  rw[zM (s':=((if zV T (col (iY r d) k)<s then s else zV T (col (iY r d) k)),l++[zV T (col (iY r d) k)])) (by
   simp only
   rw[xVo hr hd (by omega) hm h3,thn_nx,(sZ qa (xCa qa hs k) (by omega)).1,bnd_s,kX (by simp only[Ak];omega),bnd_s,xWq,bnd_s]),xKi qa hn hr hd hm h3 q (k+1) _ _ (by omega) (by simp [hl])]
  simp [Ds]
theorem xWv {n m:Nat} {r:Rel} (qa:1<=T/\T<=4) (hr:∀ t∈r.tuples,bK T t/\t.length=n) (hd:∀ a∈d,0<=a/\a<(r.tuples.length:Int)) (hm:d.length=m) (h3:m<=3):(eV T n (iY r d)).length=n/\∀ a∈eV T n (iY r d),0<=a/\a<((T ^ m:Nat):Int):=by
 refine⟨by simp [eV],λa ha=>?_⟩;obtain⟨p,_,rfl⟩:=Cv.1 ha
 have qc:(col (iY r d) p).length=m:=by rw[xEo,Bu,hm]
 have:=sZ qa (xCa qa (xTg hr hd) p) (by omega);rw[qc] at this;exact this.2
theorem xNj {ρ ρ':Type} {N T m n k:Nat} {rels:List Rel} {r:Rel} {P:Int} (qc:1<=T/\T<=4) (hm:1<=m/\m<=3) (hN:10<=N) (hk:rels[k]?=some r) (qh:r.arity=(n:Int)) (hn:1<=n/\n<=4) (hr:∀ t∈r.tuples,bK T t/\t.length=n) (hP:P<=4000) (qi:r.tuples.length=0->P=0):∀ (q i B:Nat) (D:List (List lookT)),((i+q:Nat):Int)<=P->DueOk T m rels B D->B+q<=10000->
 ∃ D',qM (σ:=List (List lookT)) (ρ:=ρ) (λk1 s1=>xG (qQ N (r.tuples.length:Int) (m:Int) (k1:Int)) λz1=>oZ (σ:=List Int) (qM (λk2 s2=>oZ (σ:=Int) (oM (λk3 x3 s3=>xG (ck (s3*(T:Int))) λz2=>xG (ix r.tuples x3) λz3=>xG (ix z3 (k2:Int)) λz4=>xG (ck (z2+z4)) λz5=>some (.go z5)) z1 0 0) λs4=>xG (ap s2 ([s4])) λz6=>some (.go z6)) r.arity.toNat 0 []) λs5=>xG (zG s5) λz7=>xG (ix s1 z7) λz8=>xG (ap z8 ([(lookT.mk (k:Int) s5)])) λz9=>some (.go (s1.set (z7).toNat z9))) q i D=some (.nx D') ∧
  qM (σ:=List (List B4)) (ρ:=ρ') (λk4 s6=>xG (vZ N (r.tuples.length:Int) (m:Int) (k4:Int)) λz10=>oZ (σ:=Int×(List Int)) (qM (λk5 s=>match s with | (s7,s8)=>oZ (σ:=List Int) (qM (λk6 s9=>xG (ix z10 (k6:Int)) λz11=>xG (ix r.tuples z11) λz12=>xG (ix z12 (k5:Int)) λz13=>xG (ap s9 ([z13])) λz14=>some (.go z14)) (m:Int).toNat 0 []) λs10=>xG (kV (T:Int) s10) λz15=>xG (ap s8 ([z15])) λz16=>xG (lX s7 z15) λz17=>some (.go (z17,z16))) r.arity.toNat 0 (0,[])) λ(s11,s12)=>xG (ix s6 s11) λz18=>xG (ap z18 ([(B4.mk (k:Int) s12)])) λz19=>some (.go (s6.set (s11).toNat z19))) q i (wK D)=some (.nx (wK D'))/\DueOk T m rels (B+q) D'
 | 0,i,B,D,_,hD,_=>⟨D,rfl,rfl,hD⟩
 | q+1,i,B,D,hi,hD,hB=>by
  have hlen:1<=r.tuples.length:=by
   refine Classical.byContradiction λh=>?_;have:=qi (by omega)
   omega
  obtain⟨d,d1,d2,d3⟩:=xDj (N:=N) (T:=(r.tuples.length:Int)) (k:=(i:Int)) (m:=m) (by omega) (by omega) (by omega) (by omega) (by omega);obtain⟨c1,c2⟩:=xWv qc hr d3 d2 hm.2;have hpow:=rD (T:=T) (k:=m) qc (by omega);obtain⟨x1,x2⟩:=oJh (l:=eV T n (iY r d)) (n:=((T ^ m:Nat):Int)) c2 (by omega);have qg:zG (eV T n (iY r d))=some (mx (eV T n (iY r d))):=oIb (λa ha=>(c2 a ha).1) (by omega)
  have qd:(mx (eV T n (iY r d))).toNat<D.length:=by rw[hD.ln];omega
  have qe:D[(mx (eV T n (iY r d))).toNat]?=some (D[(mx (eV T n (iY r d))).toNat]'qd):=Aa qd;generalize hw:D[(mx (eV T n (iY r d))).toNat]'qd=l at qe;have hll:=hD.le _ _ qe
  have qf:r.arity.toNat=n:=by omega
  have qj:DueOk T m rels (B+1) (D.set (mx (eV T n (iY r d))).toNat (l++[⟨(k:Int),eV T n (iY r d)⟩])):=by
   refine⟨by simp [hD.ln],λp l' qa=>?_,λp l' qa=>?_⟩
   ·rw[List.getElem?_set] at qa
    by_cases e:(mx (eV T n (iY r d))).toNat=p
    ·rw[if_pos e,if_pos qd] at qa
     cases qa
     intro c hc
     rcases Ar.1 hc with hc | hc
     ·rw[<- e];exact hD.ok _ _ qe c hc
     ·rw[Bd.1 hc]
      refine⟨⟨k,n,r,rfl,hk,Ae hk,qh,c1⟩,λa ha=>⟨(c2 a ha).1,?_⟩⟩;have:=(oFi (l:=eV T n (iY r d)) (s:=0)).2 a ha
      unfold mx at e x1
      omega
    ·rw[if_neg e] at qa
     exact hD.ok p l' qa
   ·rw[List.getElem?_set] at qa
    by_cases e:(mx (eV T n (iY r d))).toNat=p
    ·rw[if_pos e,if_pos qd] at qa
     cases qa
     simp;omega
    ·rw[if_neg e] at qa
     have:=hD.le p l' qa
     omega
  obtain⟨D',q1,q2,q3⟩:=xNj (ρ:=ρ) (ρ':=ρ') (N:=N) qc hm hN hk qh hn hr hP qi q (i+1) (B+1) _ (by omega) qj (by omega);refine⟨D',?_,?_,by rw[show B+(q+1)=B+1+q by omega];exact q3⟩
  ·rw[zM (s':=D.set (mx (eV T n (iY r d))).toNat (l++[⟨(k:Int),eV T n (iY r d)⟩])) (by
    simp only[d1,bnd_s,qf]
    rw[xSj qc hn.2 hr d3 d2 hm.2,thn_nx,qg,bnd_s,lK x1 qe,bnd_s,kX (by simp only[Ak];omega),bnd_s])]
   exact q1
  ·rw[zM (s':=wK (D.set (mx (eV T n (iY r d))).toNat (l++[⟨(k:Int),eV T n (iY r d)⟩]))) (by
    simp only[rV,d1,bnd_s,qf];rw[xKi qc hn.2 hr d3 d2 hm.2 n 0 0 [] (by omega) rfl,thn_nx,Bp];rw[show((List.range' 0 n).map λp=>zV T (col (iY r d) p))=eV T n (iY r d) from rfl,show(eV T n (iY r d)).foldl (λs x=>if x<s then s else x) 0=mx (eV T n (iY r d)) from rfl];simp only;rw[lK x1 (xUc qe),bnd_s,kX (by simp only[Ak,Bu];omega),bnd_s,<- xZx]
    rfl)]
   exact q2
end
section
def pwN (m:Nat) (r:Rel):Nat:=((vA (r.tuples.length:Int) (m:Int)).getD 0).toNat
def tV (m:Nat) (l:List Rel):Nat:=(l.map (pwN m)).sum
theorem xOc (m:Nat) (r:Rel) (l:List Rel):tV m (r::l)=pwN m r+tV m l:=by simp [tV]
theorem xXo {N m:Nat} {r:Rel} (hr:r.tuples.length<=1048576) (hm:1<=m/\m<=3) (hN:10<=N):vA (r.tuples.length:Int) (m:Int)=some (pwN m r:Int)/\qD N (r.tuples.length:Int) (m:Int)=some (pwN m r:Int)/\(pwN m r:Int)<=1152921504606846976/\(r.tuples.length=0->(pwN m r:Int)=0):=by
 obtain⟨p,p1,p2,p3,p4,p5⟩:=xUg (T:=(r.tuples.length:Int)) (m:=m) (N:=N) (by omega) (by omega) hm (by omega)
 have e:(pwN m r:Int)=p:=by unfold pwN;rw[p1];simp;omega
 rw[e];exact⟨p1,p2,p4,λh=>p5 (by omega)⟩
theorem xOf {ρ ρ':Type} {N m:Nat} (hm:1<=m/\m<=3) (hN:10<=N):∀ (l:List Rel) (k:Nat) (a b:Int),(∀ r∈l,r.tuples.length<=1048576)->0<=a->a+4001*l.length<=100000->0<=b->b+1152921504606846976*l.length<=6917529027641081856->∃ a',oM (σ:=Int) (ρ:=ρ) (λk1 (x1:Rel) s1=>xG (vA (x1.tuples.length:Int) (m:Int)) λz1=>xG (ck (s1+(if z1<4001 then z1 else 4001))) λz2=>some (.go z2)) l k a=some (.nx a')/\oM (σ:=Int) (ρ:=ρ') (λk2 (x2:Rel) s2=>xG (qD N (x2.tuples.length:Int) (m:Int)) λz3=>xG (ck (s2+z3)) λz4=>some (.go z4)) l k b=some (.nx (b+(tV m l:Int)))/\((a=b∨(4000<a/\4000<b))->(a'=b+(tV m l:Int)∨(4000<a'/\4000<b+(tV m l:Int))))
 | [],k,a,b,_,_,_,_,_=>⟨a,rfl,by simp [oM,tV],λh=>by simpa [tV] using h⟩
 | r::l,k,a,b,hl,ha,ha',hb,hb'=>by
  obtain⟨p1,p2,p3,p4⟩:=xXo (N:=N) (hl r (Bh ..)) hm hN;rw[Am] at ha' hb'
  have hmin:0<=(if (pwN m r:Int)<4001 then (pwN m r:Int) else 4001)/\(if (pwN m r:Int)<4001 then (pwN m r:Int) else 4001)<=4001:=by split<;>omega
  obtain⟨a',q1,q2,q3⟩:=xOf (ρ:=ρ) (ρ':=ρ') hm hN l (k+1) (a+(if (pwN m r:Int)<4001 then (pwN m r:Int) else 4001)) (b+(pwN m r:Int)) (λr hr=>hl r (Aw _ hr)) (by omega) (by omega) (by omega) (by omega);refine⟨a',?_,?_,λh=>?_⟩
  ·rw[vQ (s':=a+(if (pwN m r:Int)<4001 then (pwN m r:Int) else 4001)) (by rw[p1,bnd_s,zJ (by omega) (by omega),bnd_s])]
   exact q1
  ·rw[vQ (s':=b+(pwN m r:Int)) (by rw[p2,bnd_s,zJ (by omega) (by omega),bnd_s]),q2,xOc]
   congr 2
   omega
  ·rw[xOc]
   have:=q3 (by
    by_cases hc:(pwN m r:Int)<4001
    ·rw[if_pos hc];omega
    ·rw[if_neg hc];omega)
   omega
theorem oFh {ρ : Type} : ∀ (q k : Nat), qM (σ := (List Int) × (List Int)) (ρ := ρ) (λk1 s =>match s with | (s1,s2)=>xG (ix s1 (k1:Int)) λz1=>xG (ix s2 (k1:Int)) λz2=>some (.go ((s1.set ((k1:Int)).toNat (-1)),(s2.set ((k1:Int)).toNat (-1))))) q k (List.replicate k (-1)++List.replicate q 0,List.replicate k (-1)++List.replicate q 0)=some (.nx (List.replicate (k+q) (-1),List.replicate (k+q) (-1)))
 | 0,k=>by simp [qM]
 | q+1,k=>by
  have h1:(List.replicate k (-1:Int)++List.replicate (q+1) 0)[k]?=some 0:=by
   rw[Bb (by simp)];simp
  have h2:(List.replicate k (-1:Int)++List.replicate (q+1) 0).set k (-1)=List.replicate (k+1) (-1)++List.replicate q 0:=by
   rw[List.set_append_right _ _ (by simp),List.replicate_succ' (n:=k)]
   simp [De]
  rw[zM (s':=(List.replicate (k+1) (-1)++List.replicate q 0,List.replicate (k+1) (-1)++List.replicate q 0)) (by
   simp only[vE h1,bnd_s,Ad,h2]),oFh q (k+1),show k+1+q=k+(q+1) by omega]
def xBq (T:Nat) (r:Rel):B7:=⟨(T:Int),r.arity,inS T r⟩
theorem xVu {N T n:Nat} {r:Rel} (qa:1<=T/\T<=4) (hN:10<=N) (qc:r.arity=(n:Int)) (hn:1<=n/\n<=4) (hr:∀ t∈r.tuples,bK T t/\t.length=n):cX N (T:Int) r=some ((T:Int),r.arity,inS T r)/\vA (T:Int) r.arity=some ((T ^ n:Nat):Int)/\pN (false:Bool) ((T ^ n:Nat):Int)=some (List.replicate (T ^ n) false):=by
 obtain⟨p1,p2⟩:=tD (N:=N) qa (n:=n) (by omega) hN;have hp:=rD (T:=T) (k:=n) qa (by omega)
 have hz:pN (false:Bool) ((T ^ n:Nat):Int)=some (List.replicate (T ^ n) false):=by
  unfold pN
  rw[if_pos ⟨by omega,by omega⟩,Ad]
 refine⟨?_,by rw[qc];exact p1,hz⟩
 unfold cX nP
 rw[qc,p2,bnd_s,hz,bnd_s,bnd_s];simp only;rw[xBj qa (n:=n) (by omega) r.tuples 0 _ hr (by simp),thn_nx]
 unfold inS
 rw[qc,Ad]
theorem xEq {T:Nat} {u:A6} (hu:TV T u) {r:Rel} (h:r∈u.rels):∃ n:Nat,r.arity=(n:Int)/\(1<=n/\n<=4)/\(∀ t∈r.tuples,bK T t/\t.length=n)/\r.tuples.length<=256:=by
 obtain⟨n,h1,h2,h3⟩:=(hu.r r h).bits;exact⟨n,h1,h2,h3,(hu.r r h).len hu.t⟩
theorem xHl {ρ ρ':Type} {N T m:Nat} {u:A6} {F G:List Int} {i0:Int} {b0:Bool} (hu:TV T u) (hm:1<=m/\m<=3) (hN:10<=N) (qa:tV m u.rels<=4000):∀ (l:List Rel) (pre:List Rel) (D:List (List lookT)),u.rels=pre++l->DueOk T m u.rels (tV m pre) D->
 ∃ D',oM (σ:=(List (List lookT))×(List (List Bool))) (ρ:=ρ) (λk1 (x1:Rel) s=>match s with | (s4,s5)=>xG (vA u.size x1.arity) λz1=>xG (pN (false:Bool) z1) λz2=>oZ (σ:=List Bool) (oM (λk2 (x2:(List Int)) s6=>xG (dY u.size x2) λz3=>xG (ix s6 z3) λz4=>some (.go (s6.set (z3).toNat true))) x1.tuples 0 z2) λs7=>xG (ap s5 ([s7])) λz5=>xG (vA (x1.tuples.length:Int) (m:Int)) λz6=>oZ (σ:=List (List lookT)) (qM (λk3 s8=>xG (qQ N (x1.tuples.length:Int) (m:Int) (k3:Int)) λz7=>oZ (σ:=List Int) (qM (λk4 s9=>oZ (σ:=Int) (oM (λk5 x3 s10=>xG (ck (s10*u.size)) λz8=>xG (ix x1.tuples x3) λz9=>xG (ix z9 (k4:Int)) λz10=>xG (ck (z8+z10)) λz11=>some (.go z11)) z7 0 0) λs11=>xG (ap s9 ([s11])) λz12=>some (.go z12)) x1.arity.toNat 0 []) λs12=>xG (zG s12) λz13=>xG (ix s8 z13) λz14=>xG (ap z14 ([(lookT.mk (k1:Int) s12)])) λz15=>some (.go (s8.set (z13).toNat z15))) z6.toNat 0 s4) λs13=>some (.go (s13,z5))) l pre.length (D,pre.map (inS T))=some (.nx (D',u.rels.map (inS T))) ∧
 oM (σ:=(List B7)×(List (List B4))) (ρ:=ρ') (λk6 (x4:Rel) s=>match s with | (s14,s15)=>xG (cX N u.size x4) λz16=>xG (ap s14 ([(B7.mk z16.1 z16.2.1 z16.2.2)])) λz17=>xG (jJ N u (m:Int) z17 s15 F G i0 b0 (k6:Int)) λz18=>some (.go (z17,z18))) l pre.length (pre.map (xBq T),wK D)=some (.nx (u.rels.map (xBq T),wK D'))/\DueOk T m u.rels (tV m u.rels) D'
 | [],pre,D,hp,hD=>by
  rw[Cd] at hp;exact⟨D,by rw[hp];rfl,by rw[hp];rfl,by rw[hp] at hD ⊢;exact hD⟩
 | r::l,pre,D,hp,hD=>by
  have qd:r∈u.rels:=by rw[hp];simp
  obtain⟨n,r1,r2,r3,r4⟩:=xEq hu qd;obtain⟨p1,p2,p3,p4⟩:=xXo (N:=N) (r:=r) (by omega) hm hN;obtain⟨s1,s2,s3⟩:=xVu (N:=N) hu.t hN r1 r2 r3
  have hpl:pre.length<=6:=by have:=hu.n;rw[hp,Aq] at this;omega
  have qe:tV m (pre++[r])=tV m pre+pwN m r:=by simp [tV]
  have hle:tV m pre+pwN m r<=4000:=by
   have:tV m u.rels=tV m pre+(pwN m r+tV m l):=by rw[hp];simp [tV]
   omega
  have qc:u.rels[pre.length]?=some r:=by rw[hp];simp
  obtain⟨D1,q1,q2,q3⟩:=xNj (ρ:=(Ctl ((List (List lookT))×(List (List Bool))) ρ)) (ρ':=List (List B4)) (N:=N) (P:=(pwN m r:Int)) hu.t hm hN qc r1 r2 r3 (by omega) p4 (pwN m r) 0 (tV m pre) D (by omega) hD (by omega);rw[<- qe] at q3;obtain⟨D',e1,e2,e3⟩:=xHl (ρ:=ρ) (ρ':=ρ') (F:=F) (G:=G) (i0:=i0) (b0:=b0) (N:=N) hu hm hN qa l (pre++[r]) D1 (by rw[hp];simp) q3;simp only[Aq,Ak,List.map_append,Da,Ep] at e1 e2;rw[hu.s] at e1 e2 ⊢;refine⟨D',?_,?_,e3⟩
  ·rw[vQ (s':=(D1,pre.map (inS T)++[inS T r])) (by
    simp only;rw[s2,bnd_s,s3,bnd_s,xDf,xBj hu.t (n:=n) (by omega) r.tuples 0 _ r3 (by simp),thn_nx,kX (by simp only[Ak,Bu];omega),bnd_s,p1,bnd_s,Ad (pwN m r),q1,thn_nx]
    unfold inS
    rw[r1,Ad])]
   exact e1
  ·rw[vQ (s':=(pre.map (xBq T)++[xBq T r],wK D1)) (by
    simp only;rw[s1,bnd_s,kX (by simp only[Ak,Bu];omega),bnd_s]
    unfold jJ
    rw[hu.s,vE qc,bnd_s,p2,bnd_s,Ad (pwN m r),q2,thn_nx,bnd_s]
    rfl)]
   exact e2
theorem xWw {N T m:Nat} {u:A6} (hu:TV T u) (hm:1<=m/\m<=3) (hN:1100<=N) :
 ∃ z,mJ u (m:Int)=some z ∧
 ((decide (4000<z)=true/\∃ q,gF N u (m:Int)=some (q,3)) ∨ (decide (4000<z)=false/\∃ D,mA N u (m:Int)=some (u.size,u.rels,(m:Int),D,u.rels.map (inS T),List.replicate (T ^ m) (-1),0,[])/\gF N u (m:Int)=some ((u,(m:Int),u.rels.map (xBq T),wK D,List.replicate (T ^ m) (-1),List.replicate (T ^ m) (-1),0,false),0)/\DueOk T m u.rels (tV m u.rels) D)):=by
 have hn:=hu.n
 have qa:∀ r∈u.rels,r.tuples.length<=1048576:=λr hr=>by
  obtain⟨_,_,_,_,h⟩:=xEq hu hr
  omega
 obtain⟨z,m1,m2,m3⟩:=xOf (ρ:=Int) (ρ':=(A6×Int×(List B7)×(List (List B4))×(List Int)×(List Int)×Int×Bool)×Int) (N:=N) hm (by omega) u.rels 0 0 0 qa (by omega) (by omega) (by omega) (by omega);have m4:=m3 (.inl rfl);rw[Int.zero_add] at m2 m4;refine⟨z,by unfold mJ;rw[m1,thn_nx],?_⟩
 by_cases h:(4000:Int)<(tV m u.rels:Int)
 ·left
  refine⟨by rw[Bg];omega,(default,0,[],[],[],[],0,false),?_⟩
  unfold gF
  rw[m2,thn_nx,if_pos (by rw[Bg];exact h)]
 ·right
  obtain⟨p1,p2⟩:=tD (N:=N) hu.t (n:=m) (by omega) (by omega);have hp:=rD (T:=T) (k:=m) hu.t (by omega)
  have z1:pN ([]:List lookT) ((T ^ m:Nat):Int)=some (List.replicate (T ^ m) []):=by
   unfold pN;rw[if_pos ⟨by omega,by omega⟩,Ad]
  have z2:pN ([]:List B4) ((T ^ m:Nat):Int)=some (wK (List.replicate (T ^ m) [])):=by
   unfold pN wK;rw[if_pos ⟨by omega,by omega⟩,Ad,List.map_replicate];rfl
  have z3:pN (0:Int) ((T ^ m:Nat):Int)=some (List.replicate (T ^ m) 0):=by
   unfold pN;rw[if_pos ⟨by omega,by omega⟩,Ad]
  have z4:qH [-1] ((T ^ m:Nat):Int)=some (List.replicate (T ^ m) (-1)):=by
   unfold qH
   rw[if_pos ⟨rfl,by omega,by omega⟩,Ad]
   rfl
  have d1:∀ (p:Nat) (l:List lookT),(List.replicate (T ^ m) ([]:List lookT))[p]?=some l->l=[]:=λp l hl=>by
   rw[Dg] at hl
   split at hl
   ·exact(Option.some.inj hl).symm
   ·cases hl
  have d0:DueOk T m u.rels (tV m []) (List.replicate (T ^ m) []):=⟨by simp,λp l hl c hc=>by rw[d1 p l hl] at hc;simp at hc,λp l hl=>by rw[d1 p l hl];simp⟩;obtain⟨D,e1,e2,e3⟩:=xHl (ρ:=(Int×(List Rel)×Int×(List (List lookT))×(List (List Bool))×(List Int)×Int×(List Int))) (ρ':=(A6×Int×(List B7)×(List (List B4))×(List Int)×(List Int)×Int×Bool)×Int) (F:=List.replicate (T ^ m) (-1)) (G:=List.replicate (T ^ m) (-1)) (i0:=0) (b0:=false) (N:=N) hu hm (by omega) (by omega) u.rels [] (List.replicate (T ^ m) []) rfl d0;simp only[Bi,Ep] at e1 e2;have hf:=oFh (ρ:=(A6×Int×(List B7)×(List (List B4))×(List Int)×(List Int)×Int×Bool)×Int) (T ^ m) 0;rw[List.replicate_zero,Bp,Bj] at hf;refine⟨by rw[Dw];omega,D,?_,?_,e3⟩
  ·unfold mA
   rw[hu.s,p1,bnd_s,z1,bnd_s,z4,bnd_s];rw[hu.s] at e1;rw[e1,thn_nx]
  ·unfold gF
   rw[m2,thn_nx,if_neg (by rw[Bg];exact h)];rw[hu.s,p2,bnd_s,z2,bnd_s,z3,bnd_s,Ad,hf,thn_nx];simp only;rw[hu.s] at e2;rw[e2,thn_nx]
end
section
open Go.RowKit
inductive Fnd where
  | found (t:List Int)
  | stop
  | out (s:Nat)
section
variable (size most:Nat) (ok acc:List Int->Bool)
def pJ (f:List Int->Nat->Fnd) (l:List Int):Nat->Nat->Nat->Fnd | 0,_,s=>.out s | r+1,a,s=>if s=most then .stop else if ok ((a:Int)::l) then (match f ((a:Int)::l) (s+1) with | .out s'=>pJ f l r (a+1) s' | x=>x) else pJ f l r (a+1) (s+1)
def xAr:Nat->List Int->Nat->Fnd | 0,l,s=>if acc l then .found l else .out s | d+1,l,s=>pJ most ok (xAr d) l size 0 s
def iE (n:Nat):List Int->Nat->Nat->Fnd
 | [],a,s=>pJ most ok (xAr size most ok acc (n - 1)) [] (size - a) a s
 | x::l,a,s=>match pJ most ok (xAr size most ok acc (n - (l.length+1) - 1)) (x::l) (size - a) a s with
  | .out s'=>iE n l (x.toNat+1) s'
  | r=>r
variable {size most ok acc}
theorem xSq {n:Nat} {l:List Int} {a s:Nat} (h:a<size) (hs:s=most):iE size most ok acc n l a s= .stop:=by
 obtain⟨r,hr⟩:∃ r,size - a=r+1:=⟨size - a - 1,by omega⟩
 cases l with
 | nil=>simp [iE,hr,pJ,hs]
 | cons x l=>simp [iE,hr,pJ,hs]
theorem xXr {n:Nat} {l:List Int} {a s:Nat} (h:a<size) (hs:s≠most) (hk:ok ((a:Int)::l)=false):iE size most ok acc n l a s=iE size most ok acc n l (a+1) (s+1):=by
 obtain⟨r,hr⟩:∃ r,size - a=r+1:=⟨size - a - 1,by omega⟩
 have qa:size - (a+1)=r:=by omega
 cases l with
 | nil=>simp [iE,hr,qa,pJ,hs,hk]
 | cons x l=>simp only[iE,hr,qa];rw[pJ,if_neg hs,if_neg (by simp [hk])]
theorem xVx {n:Nat} {l:List Int} {a s:Nat} (h:a<size) (hs:s≠most) (hk:ok ((a:Int)::l)=true) (hn:l.length+1=n):iE size most ok acc n l a s=if acc ((a:Int)::l) then .found ((a:Int)::l) else iE size most ok acc n l (a+1) (s+1):=by
 obtain⟨r,hr⟩:∃ r,size - a=r+1:=⟨size - a - 1,by omega⟩
 have qa:size - (a+1)=r:=by omega
 cases l with
 | nil=>
  obtain rfl:n=1:=by simpa using hn.symm
  simp only[iE,hr,qa,Ed];rw[pJ,if_neg hs,if_pos hk,xAr]
  by_cases g:acc [(a:Int)]=true<;>simp [g]
 | cons x l=>
  simp only[Am] at hn
  have e:n - (l.length+1) - 1=0:=by omega
  simp only[iE,hr,qa,e];rw[pJ,if_neg hs,if_pos hk,xAr]
  by_cases g:acc ((a:Int)::x::l)=true<;>simp [g]
theorem xXe {n:Nat} {l:List Int} {a s:Nat} (h:a<size) (hs:s≠most) (hk:ok ((a:Int)::l)=true) (hn:l.length+1<n):iE size most ok acc n l a s=iE size most ok acc n ((a:Int)::l) 0 (s+1):=by
 obtain⟨r,hr⟩:∃ r,size - a=r+1:=⟨size - a - 1,by omega⟩
 have qa:size - (a+1)=r:=by omega
 cases l with
 | nil=>
  simp only[Bi] at hn;obtain⟨d,rfl⟩:∃ d,n=d+2:=⟨n - 2,by omega⟩
  have e1:d+2 - 1=d+1:=by omega
  have e2:d+2 - (0+1) - 1=d:=by omega
  simp only[iE,hr,qa,Bi,e1,e2];rw[pJ,if_neg hs,if_pos hk,xAr];simp only[Ad,qa,Ey,Nat.add_sub_cancel]
 | cons x l=>
  simp only[Am] at hn;obtain⟨d,rfl⟩:∃ d,n=l.length+3+d:=⟨n - l.length - 3,by omega⟩
  have e1:l.length+3+d - (l.length+1) - 1=d+1:=by omega
  have e2:l.length+3+d - (l.length+1+1) - 1=d:=by omega
  simp only[iE,hr,qa,Am,e1,e2];rw[pJ,if_neg hs,if_pos hk,xAr];simp only[Ad,qa,Ey]
  cases pJ most ok (xAr size most ok acc d) (↑a::x::l) size 0 (s+1)<;>simp
theorem xSv {n:Nat} {l:List Int} {x:Int} {a s:Nat} (h:size<=a):iE size most ok acc n (x::l) a s=iE size most ok acc n l (x.toNat+1) s:=by
 have hr:size - a=0:=by omega
 simp [iE,hr,pJ]
theorem xWl {n:Nat} {a s:Nat} (h:size<=a):iE size most ok acc n [] a s= .out s:=by
 have hr:size - a=0:=by omega
 simp [iE,hr,pJ]
theorem xWk {n:Nat} {s:Nat} (hn:0<n):iE size most ok acc n [] 0 s=xAr size most ok acc n [] s:=by
 obtain⟨d,rfl⟩:∃ d,n=d+1:=⟨n - 1,by omega⟩
 simp [iE,xAr]
end
end
section
variable {T:Nat} {tab:List Int} {p:Nat}
def okC (T:Nat) (u:A6) (tab:List Int) (c:lookT):Bool:=((u.rels.map (inS T)).getD c.rel.toNat []).getD (zV T (atV tab c.cells)).toNat false
def okT (T:Nat) (u:A6) (D:List (List lookT)) (tab:List Int):Bool:=(D.getD (tab.length - 1) []).all (okC T u tab)
theorem oCn {n:Nat} {r:Rel} (h:r.arity=(n:Int)):(inS T r).length=T ^ n:=by
 unfold inS
 rw[yK,Bv,h,Ad]
theorem xQc {u:A6} {c:lookT} (hu:TV T u) (hc:CondOk u.rels p c) (ht:bK T tab) (hp:p<tab.length):(bK T (atV tab c.cells)/\(atV tab c.cells).length<5)/\∃ r,r∈u.rels/\ix (u.rels.map (inS T)) c.rel=some (inS T r)/\ix (u.rels.map (xBq T)) c.rel=some (xBq T r)/\ix (inS T r) (zV T (atV tab c.cells))=some (okC T u tab c):=by
 obtain⟨k,n,r,h1,h2,h3,h4,h5⟩:=hc.ex;obtain⟨n',r1,r2,_⟩:=xEq hu h3
 have hb:bK T (atV tab c.cells):=by
  intro a ha;obtain⟨i,hi,rfl⟩:=Cv.1 ha;exact oIy hu.t ht i.toNat
 have hl:(atV tab c.cells).length=n:=by unfold atV;rw[Bu,h5]
 have qc:(atV tab c.cells).length<5:=by omega
 obtain⟨_,c2,c3⟩:=sZ hu.t hb qc
 have hi:(u.rels.map (inS T))[k]?=some (inS T r):=by rw[Ay,h2];rfl
 have hs:(u.rels.map (xBq T))[k]?=some (xBq T r):=by rw[Ay,h2];rfl
 rw[hl] at c3
 have qa:(zV T (atV tab c.cells)).toNat<(inS T r).length:=by rw[oCn h4];omega
 have hg:(inS T r)[(zV T (atV tab c.cells)).toNat]?=some ((inS T r)[(zV T (atV tab c.cells)).toNat]'qa):=Aa qa;refine⟨⟨hb,qc⟩,r,h3,by rw[h1];exact vE hi,by rw[h1];exact vE hs,?_⟩
 have qd:okC T u tab c=(inS T r)[(zV T (atV tab c.cells)).toNat]'qa:=by
  unfold okC
  rw[h1,Ad,Ao (l:=u.rels.map (inS T)),hi,Eb,Ao,hg,Eb]
 rw[qd];exact lK c2 hg
theorem xTi {ρ : Type} {u : A6} {c : lookT} (hu : TV T u) (hc : CondOk u.rels p c) (ht : bK T tab) (hp : p < tab.length) : oM (σ := Int) (ρ := ρ) (λk1 x1 s1 =>xG (ck (s1*(T:Int))) λz1=>xG (ix tab x1) λz2=>xG (ck (z1+z2)) λz3=>some (.go z3)) c.cells 0 0=some (.nx (zV T (atV tab c.cells))):=by
 obtain⟨⟨hb,h5⟩,_⟩:=xQc hu hc ht hp
 rw[uZ (λi=>tab.getD i.toNat 0) (b':=λ(k2:Nat) (x2:Int) (s2:Int)=>xG (ck (s2*(T:Int))) λz4=>xG (ck (z4+x2)) λz5=>some (.go z5)) c.cells 0 0 (λi x s hx=>by
  have:=hc.le x hx
  have qa:x.toNat<tab.length:=by omega
  have e:tab[x.toNat]?=some (tab[x.toNat]'qa):=Aa qa;rw[kK e,lK this.1 e]
  simp only[bnd_s])]
 refine wX hu.t _ 0 0 hb (by omega) ?_;have:=rD (T:=T) (k:=(atV tab c.cells).length) hu.t h5
 show(0+1)*((T ^ (atV tab c.cells).length:Nat):Int)<=1000
 omega
theorem oCf {m B:Nat} {u:A6} {D:List (List lookT)} {told:List Int} {s:Int} (hu:TV T u) (hD:DueOk T m u.rels B D) (ht:bK T tab) (h1:1<=tab.length) (hn:tab.length<=T ^ m) (hm:m<=3):bG u.size u.rels (m:Int) D (u.rels.map (inS T)) told s tab=some (okT T u D tab):=by
 have hpw:=rD (T:=T) (k:=m) hu.t (by omega)
 have qa:tab.length - 1<D.length:=by rw[hD.ln];omega
 have hl:D[tab.length - 1]?=some (D[tab.length - 1]'qa):=Aa qa
 unfold bG okT
 rw[zJ (by omega) (by omega),bnd_s,show((tab.length:Int) - 1)=((tab.length - 1:Nat):Int) by omega,vE hl,bnd_s,Ao,hl,Eb,hu.s]
 exact xFp (okC T u tab) (λj c hc=>by
  have qc:=hD.ok _ _ hl c (Ae hc);obtain⟨_,r,r1,r2,_,r4⟩:=xQc hu qc ht (by omega);simp only;rw[xTi hu qc ht (by omega),thn_nx,r2,bnd_s,r4,bnd_s]
  cases okC T u tab c<;>rfl)
theorem oCp {T:Nat} {u:A6} {c:lookT} {tab':List Int} (hc:CondOk u.rels p c) (h:tab'.take (p+1)=tab):atV tab' c.cells=atV tab c.cells:=by
 unfold atV
 refine List.map_congr_left λa ha=>?_;have:=hc.le a ha;rw[<- h,Ao,Ao,List.getElem?_take_of_lt (by omega)]
theorem oFc {m B:Nat} {u:A6} {D:List (List lookT)} {F tab':List Int} {s:Int} {b:Bool} (hu:TV T u) (hD:DueOk T m u.rels B D) (ht:bK T tab) (h1:tab.length=p+1) (hn:tab.length<=T ^ m) (h:tab'.take (p+1)=tab):eM u (m:Int) (u.rels.map (xBq T)) (wK D) F tab' s b (p:Int)=some (okT T u D tab):=by
 have qc:p<D.length:=by rw[hD.ln];omega
 have hl:D[p]?=some (D[p]'qc):=Aa qc
 have htl:p+1<=tab'.length:=by
  have:=congrArg List.length h;rw[Bc] at this;omega
 unfold eM okT
 rw[vE (xUc hl),bnd_s,Ao,show tab.length - 1=p by omega,hl,Eb,Ad,Bu]
 rw[pK (g:=λ(k:Nat) (c:lookT) (s:Unit)=>some (if okC T u tab c then Ctl.go () else Ctl.ret false)) (D[p]'qc) 0 0 () (λj c s' hc=>by
  have qa:=hD.ok _ _ hl c (Ae hc);obtain⟨⟨hb,h5⟩,r,r1,_,r3,r4⟩:=xQc hu qa ht (by omega)
  have qd:((D[p]'qc).map toC)[j]?=some (toC c):=by rw[Ay,hc];rfl
  rw[Bj];simp only[vE qd,bnd_s,toC,r3];rw[xJl (λi hi=>⟨(qa.le i hi).1,by have:=(qa.le i hi).2;omega⟩) (by obtain⟨_,n,_,_,_,h3,h4,h6⟩:=qa.ex;obtain⟨n',e1,e2,_⟩:=xEq hu h3;omega),bnd_s,oCp (T:=T) qa h,hu.s,(sZ hu.t hb h5).1,bnd_s]
  unfold xBq
  simp only;rw[r4,bnd_s]
  cases okC T u tab c<;>rfl)]
 exact xFp (okC T u tab) (λj c hc=>rfl)
def SR (m:Nat) (l:List Int) (r:Int×Int×List Int×Int×List Int):Fnd->Prop | .out s=>r=(0,(s:Int),l.reverse,0,[])/\s<=6000 | .stop=>r.1=7/\r.2.2.1=l.reverse | .found t=>r.1= -1/\r.2.2.1=l.reverse/\r.2.2.2=((m:Int),t.reverse)
def SV' (m:Nat) (l:List Int) (o:Out (Int×List Int×Int×List Int) (Int×Int×List Int×Int×List Int)):Fnd->Prop | .out s=>o= .nx ((s:Int),l.reverse,0,[])/\s<=6000 | .stop=>∃ r,o= .ret r/\SR m l r .stop | .found t=>∃ r,o= .ret r/\SR m l r (.found t)
theorem xHs {T m B:Nat} {kind:Int} {u:A6} {D:List (List lookT)} {acc:Op->Bool} (hu:TV T u) (hm:1<=m/\m<=3) (hD:DueOk T m u.rels B D) (qa:∀ o N,B9 T o m->13<=N->zN N (T:Int) o kind=some (acc o)):∀ (d:Nat) (l:List Int) (s N:Nat),l.length+d=T ^ m->d+14<=N->bK T l->s<=6000->
 ∃ r,zE N u.size u.rels (m:Int) D (u.rels.map (inS T)) (List.replicate (T ^ m) (-1)) (s:Int) l.reverse u kind 0 []=some r/\SR m l r (xAr T 6000 (λl=>okT T u D l.reverse) (λl=>acc ⟨(m:Int),l.reverse⟩) d l s)
 | 0,l,s,N,hl,hN,hb,hs=>by
  obtain⟨N,rfl⟩:∃ M,N=M+1:=⟨N - 1,by omega⟩;have qg:=rD (T:=T) (k:=m) hu.t (by omega)
  have e1:((l.reverse.length:Int)==((List.replicate (T ^ m) (-1:Int)).length:Int))=true:=by rw[Cy,List.length_reverse,Bv];omega
  have qd:bK T l.reverse:=λa ha=>hb a (List.mem_reverse.1 ha);have qh:B9 T ⟨(m:Int),l.reverse⟩ m:=⟨rfl,hm.1,hm.2,by simp;omega,qd⟩;have hk:=qa _ N qh (by omega)
  unfold zE fC cV
  rw[if_pos e1,xCe (by rw[List.length_reverse];omega),bnd_s];simp only[hu.s,hk,bnd_s]
  unfold xAr
  by_cases ha:acc ⟨(m:Int),l.reverse⟩=true
  ·simp only[ha,Bm,Af,if_false,bnd_s,if_true]
   exact⟨_,rfl,rfl,rfl,rfl⟩
  ·have qi:acc ⟨(m:Int),l.reverse⟩=false:=by simpa using ha
   simp only[qi,Cl,if_true,bnd_s,Af,if_false];exact⟨_,rfl,rfl,hs⟩
 | d+1,l,s,N,hl,hN,hb,hs=>by
  obtain⟨N,rfl⟩:∃ M,N=M+1:=⟨N - 1,by omega⟩;have qg:=rD (T:=T) (k:=m) hu.t (by omega)
  have e1:((l.reverse.length:Int)==((List.replicate (T ^ m) (-1:Int)).length:Int))=false:=by rw[Dm,List.length_reverse,Bv];omega
  have ht:ix (List.replicate (T ^ m) (-1:Int)) (l.reverse.length:Int)=some (-1):=vE (by rw[Dg,if_pos (by rw[List.length_reverse];omega)])
  have key:∀ (r a s:Nat),a+r=T->s<=6000->∃ o,qM (σ:=Int×(List Int)×Int×(List Int)) (ρ:=Int×Int×(List Int)×Int×(List Int)) (λk1 s=>match s with | (s1,s2,s3,s4)=>oZ (σ:=Bool) (xG (ix (List.replicate (T ^ m) (-1:Int)) (l.reverse.length:Int)) λz6=>if (decide (0<=z6)) then  some (.nx (z6 != (k1:Int))) else  some (.nx false)) λs5=>if s5 then some (.go (s1,s2,s3,s4)) else if (s1==6000) then some (.ret (7,s1,s2,s3,s4)) else xG (ck (s1+1)) λz7=>xG (ap s2 ([(k1:Int)])) λz8=>xG (bG u.size u.rels (m:Int) D (u.rels.map (inS T)) (List.replicate (T ^ m) (-1)) z7 z8) λz9=>oZ (σ:=Int×Int×(List Int)×Int×(List Int)) (if z9 then xG (zE N u.size u.rels (m:Int) D (u.rels.map (inS T)) (List.replicate (T ^ m) (-1)) z7 z8 u kind s3 s4) λz10=>some (.nx (z10.1,z10.2.1,z10.2.2.1,z10.2.2.2.1,z10.2.2.2.2)) else some (.nx (0,z7,z8,s3,s4))) λ(s6,s7,s8,s9,s10)=>xG (sl s8 0 (l.reverse.length:Int)) λz11=>if (s6 != 0) then some (.ret (s6,s7,z11,s9,s10)) else some (.go (s7,z11,s9,s10))) r a ((s:Int),l.reverse,0,[])=some o/\SV' m l o (pJ 6000 (λl=>okT T u D l.reverse) (xAr T 6000 (λl=>okT T u D l.reverse) (λl=>acc ⟨(m:Int),l.reverse⟩) d) l r a s):=by
   intro r
   induction r with
   | zero=>intro a s _ hs;exact⟨_,rfl,rfl,hs⟩
   | succ r ih=>
    intro a s ha hs
    unfold pJ
    by_cases h6:s=6000
    ·rw[if_pos h6]
     refine⟨_,mR (by
      simp only[ht,bnd_s];rw[show decide ((0:Int)<=-1)=false from rfl,if_neg (by simp),thn_nx,if_neg (by simp),h6]
      rfl),_,rfl,rfl,rfl⟩
    ·rw[if_neg h6]
     have e6:((s:Int)==6000)=false:=by rw[Dm];omega
     have qj:ap l.reverse [(a:Int)]=some ((a:Int)::l).reverse:=by
      rw[kX (by simp only[List.length_reverse,Ak];omega),Ex]
     have qf:bK T ((a:Int)::l):=by
      intro x hx
      rcases Av.1 hx with rfl | hx
      ·omega
      ·exact hb x hx
     have qd:bK T ((a:Int)::l).reverse:=λx hx=>qf x (List.mem_reverse.1 hx);have hg:=oCf (told:=List.replicate (T ^ m) (-1)) (s:=(s:Int)+1) hu hD qd (by simp) (by simp;omega) hm.2
     have qc:sl ((a:Int)::l).reverse 0 (l.reverse.length:Int)=some l.reverse:=by
      rw[xAy (by simp),Ex,Cu (by simp),Ck (by simp)]
     have pre:∀ (X:Option (Ctl (Int×(List Int)×Int×(List Int)) (Int×Int×(List Int)×Int×(List Int)))),(xG (bG u.size u.rels (m:Int) D (u.rels.map (inS T)) (List.replicate (T ^ m) (-1)) ((s:Int)+1) ((a:Int)::l).reverse) λz9=>oZ (σ:=Int×Int×(List Int)×Int×(List Int)) (if z9 then xG (zE N u.size u.rels (m:Int) D (u.rels.map (inS T)) (List.replicate (T ^ m) (-1)) ((s:Int)+1) ((a:Int)::l).reverse u kind 0 []) λz10=>some (.nx (z10.1,z10.2.1,z10.2.2.1,z10.2.2.2.1,z10.2.2.2.2)) else some (.nx (0,(s:Int)+1,((a:Int)::l).reverse,0,[]))) λ(s6,s7,s8,s9,s10)=>xG (sl s8 0 (l.reverse.length:Int)) λz11=>if (s6 != 0) then some (.ret (s6,s7,z11,s9,s10)) else some (.go (s7,z11,s9,s10)))=X->(λ(k1:Nat) (s:Int×(List Int)×Int×(List Int))=>match s with | (s1,s2,s3,s4)=>oZ (σ:=Bool) (xG (ix (List.replicate (T ^ m) (-1:Int)) (l.reverse.length:Int)) λz6=>if (decide (0<=z6)) then  some (.nx (z6 != (k1:Int))) else  some (.nx false)) λs5=>if s5 then some (.go (s1,s2,s3,s4)) else if (s1==6000) then some (.ret (7,s1,s2,s3,s4)) else xG (ck (s1+1)) λz7=>xG (ap s2 ([(k1:Int)])) λz8=>xG (bG u.size u.rels (m:Int) D (u.rels.map (inS T)) (List.replicate (T ^ m) (-1)) z7 z8) λz9=>oZ (σ:=Int×Int×(List Int)×Int×(List Int)) (if z9 then xG (zE N u.size u.rels (m:Int) D (u.rels.map (inS T)) (List.replicate (T ^ m) (-1)) z7 z8 u kind s3 s4) λz10=>some (.nx (z10.1,z10.2.1,z10.2.2.1,z10.2.2.2.1,z10.2.2.2.2)) else some (.nx (0,z7,z8,s3,s4))) λ(s6,s7,s8,s9,s10)=>xG (sl s8 0 (l.reverse.length:Int)) λz11=>if (s6 != 0) then some (.ret (s6,s7,z11,s9,s10)) else some (.go (s7,z11,s9,s10))) a ((s:Int),l.reverse,0,[])=X:=by
      intro X hX;simp only[ht,bnd_s];rw[show decide ((0:Int)<=-1)=false from rfl,if_neg (by simp),thn_nx,if_neg (by simp),e6,if_neg (by simp),zJ (by omega) (by omega),bnd_s,qj,bnd_s];exact hX
     by_cases hk:okT T u D ((a:Int)::l).reverse=true
     ·rw[if_pos hk]
      obtain⟨z,z1,z2⟩:=xHs hu hm hD qa d ((a:Int)::l) (s+1) N (by simp;omega) (by omega) qf (by omega);rw[show((s+1:Nat):Int)=(s:Int)+1 by omega] at z1;generalize xAr T 6000 (λl=>okT T u D l.reverse) (λl=>acc ⟨(m:Int),l.reverse⟩) d ((a:Int)::l) (s+1)=f at z2
      cases f with
      | out s'=>
       obtain⟨rfl,qe⟩:=z2;obtain⟨o,o1,o2⟩:=ih (a+1) s' (by omega) qe;refine⟨o,?_,o2⟩
       rw[zM (pre _ (by
        rw[hg,bnd_s,if_pos hk,z1,bnd_s,thn_nx];simp only
        rw[qc,bnd_s,if_neg (by decide)]))]
       exact o1
      | stop=>
       obtain⟨z3,z4⟩:=z2
       refine⟨_,mR (pre _ (by
        rw[hg,bnd_s,if_pos hk,z1,bnd_s,thn_nx];simp only
        rw[z4,qc,bnd_s,if_pos (by rw[z3];decide)])),(z.1,z.2.1,l.reverse,z.2.2.2.1,z.2.2.2.2),rfl,z3,rfl⟩
      | found t=>
       obtain⟨z3,z4,z5⟩:=z2
       refine⟨_,mR (pre _ (by
        rw[hg,bnd_s,if_pos hk,z1,bnd_s,thn_nx];simp only
        rw[z4,qc,bnd_s,if_pos (by rw[z3];decide)])),(z.1,z.2.1,l.reverse,z.2.2.2.1,z.2.2.2.2),rfl,z3,rfl,z5⟩
     ·rw[if_neg hk]
      obtain⟨o,o1,o2⟩:=ih (a+1) (s+1) (by omega) (by omega);rw[show((s+1:Nat):Int)=(s:Int)+1 by omega] at o1;refine⟨o,?_,o2⟩
      rw[zM (pre _ (by
       rw[hg,bnd_s,if_neg hk,thn_nx];simp only
       rw[qc,bnd_s,if_neg (by decide)]))]
      exact o1
  obtain⟨o,o1,o2⟩:=key T 0 s (by omega) hs
  unfold zE
  rw[if_neg (by rw[e1];simp)]
  have hT:u.size.toNat=T:=by rw[hu.s,Ad]
  simp only[hT];rw[o1];have qk:xAr T 6000 (λl=>okT T u D l.reverse) (λl=>acc ⟨(m:Int),l.reverse⟩) (d+1) l s=pJ 6000 (λl=>okT T u D l.reverse) (xAr T 6000 (λl=>okT T u D l.reverse) (λl=>acc ⟨(m:Int),l.reverse⟩) d) l T 0 s:=rfl;rw[qk];generalize pJ 6000 (λl=>okT T u D l.reverse) (xAr T 6000 (λl=>okT T u D l.reverse) (λl=>acc ⟨(m:Int),l.reverse⟩) d) l T 0 s=f at o2 ⊢
  cases f with
  | out s'=>
   obtain⟨rfl,qe⟩:=o2;exact⟨_,rfl,rfl,qe⟩
  | stop=>
   obtain⟨r,rfl,h⟩:=o2;exact⟨_,rfl,h⟩
  | found t=>
   obtain⟨r,rfl,h⟩:=o2;exact⟨_,rfl,h⟩
end
section
def stT (n:Nat) (l:List Int) (a:Nat):List Int:=l.reverse++((a:Int) - 1)::List.replicate (n - l.length - 1) (-1)
theorem xPk {n a:Nat} {l:List Int}:(stT n l a)[l.length]?=some ((a:Int) - 1):=by
 unfold stT
 rw[Bb (by simp)]
 simp
theorem xFk {n a:Nat} {l:List Int} (v:Int):(stT n l a).set l.length v=l.reverse++v::List.replicate (n - l.length - 1) (-1):=by
 unfold stT
 rw[List.set_append_right _ _ (by simp)]
 simp
theorem xZm {n a:Nat} {x:Int} {l:List Int} (hx:0<=x) (h:l.length+1<n):(stT n (x::l) a).set (l.length+1) (-1)=stT n l (x.toNat+1):=by
 have:=xFk (n:=n) (a:=a) (l:=x::l) (-1);rw[Am] at this;rw[this]
 unfold stT
 rw[Ex,Df,List.singleton_append,show(((x.toNat+1:Nat):Int) - 1)=x by omega,show n - l.length - 1=(n - (l.length+1) - 1)+1 by omega,De]
theorem oFx {n a:Nat} {l:List Int} (h:l.length+1<n):(stT n l a).set l.length (a:Int)=stT n ((a:Int)::l) 0:=by
 rw[xFk]
 unfold stT
 rw[Ex,Df,List.singleton_append,Am,show((0:Nat):Int) - 1= -1 from rfl,show n - l.length - 1=(n - (l.length+1) - 1)+1 by omega,De]
theorem oAg {n a:Nat} {l:List Int}:(stT n l a).set l.length (a:Int)=stT n l (a+1):=by
 rw[xFk]
 unfold stT
 rw[show(((a+1:Nat):Int) - 1)=(a:Int) by omega]
theorem xUt {n a:Nat} {l:List Int} (h:l.length+1=n):(stT n l a).set l.length (a:Int)=((a:Int)::l).reverse:=by
 rw[xFk,show n - l.length - 1=0 by omega,Ex]
 rfl
theorem oBj {n a:Nat} {l:List Int}:((stT n l a).set l.length (a:Int)).take (l.length+1)=((a:Int)::l).reverse:=by
 rw[xFk,Ex,show l.reverse++(a:Int)::List.replicate (n - l.length - 1) (-1)=(l.reverse++[(a:Int)])++List.replicate (n - l.length - 1) (-1) by simp,Cu (by simp),Ck (by simp)]
theorem xXp {T n m a:Nat} {u:A6} {X:List B7} {C:List (List B4)} {l:List Int} {s:Int} {b:Bool} (hu:TV T u) (hl:l.length<n) (ha:a<=4):dN u (m:Int) X C (List.replicate n (-1)) (stT n l a) s b (l.length:Int)=some (if a<T then (a:Int) else -1):=by
 have h1:ix (List.replicate n (-1:Int)) (l.length:Int)=some (-1):=vE (by rw[Dg,if_pos hl])
 unfold dN
 rw[h1,bnd_s,if_neg (by decide),vE xPk,bnd_s,zJ (by omega) (by omega),bnd_s,hu.s,show(a:Int) - 1+1=(a:Int) by omega]
 by_cases h:a<T
 ·rw[if_pos h,if_pos (by rw[Bg];omega)]
 ·rw[if_neg h,if_neg (by rw[Bg];omega)]
section
variable {T m B n:Nat} {u:A6} {D:List (List lookT)} {acc:Op->Bool}
def NR (K T m n:Nat) (ok:List Int->Bool) (acc:List Int->Bool) (f:Fnd) (s:Nat) (o:Out (Int×(List Int)×Int) (Bool×Int×(List Int)×Int×Bool)):Prop:= (∃ s' tab,f= .out s'/\o= .nx (-1,tab,(s':Int)))∨(∃ r,f= .stop/\o= .ret r/\r.1=false/\r.2.1=7) ∨ ∃ (l:List Int) (a s':Nat),l.length+1=n/\a<T/\bK T l/\s<s'/\s'<=K/\o= .ret (true,0,((a:Int)::l).reverse,(s':Int),true)/\f=if acc ((a:Int)::l) then .found ((a:Int)::l) else iE T K ok acc n l (a+1) s'
theorem xWh {K:Nat} (hK:(K:Int)=6000) (hu:TV T u) (hm:1<=m/\m<=3) (hD:DueOk T m u.rels B D) (hn:n=T ^ m) {ac:List Int->Bool} {tl:Nat} (htl:tl=n):∀ (M:Nat) (l:List Int) (a s N:Nat),2*(K+1 - s)+l.length+1<=M->M<N->l.length<n->bK T l->a<=T->s<=K->
 ∃ o,mL (σ:=Int×(List Int)×Int) (ρ:=Bool×Int×(List Int)×Int×Bool) (λs=>match s with | (s1,s2,s3)=>if (decide (0<=s1)) then xG (dN u (m:Int) (u.rels.map (xBq T)) (wK D) (List.replicate n (-1)) s2 s3 true s1) λz1=>if (decide (z1<0)) then xG (ix s2 s1) λz2=>xG (ck (s1 - 1)) λz3=>some (.go (z3,(s2.set (s1).toNat (-1)),s3)) else xG (ck (s3+1)) λz4=>if (decide (6000<z4)) then some (.ret (false,7,s2,z4,true)) else xG (ix s2 s1) λz5=>xG (eM u (m:Int) (u.rels.map (xBq T)) (wK D) (List.replicate n (-1)) (s2.set (s1).toNat z1) z4 true s1) λz6=>if (!z6) then some (.go (s1,(s2.set (s1).toNat z1),z4)) else xG (ck (s1+1)) λz7=>if (z7==(tl:Int)) then some (.ret (true,0,(s2.set (s1).toNat z1),z4,true)) else some (.go (z7,(s2.set (s1).toNat z1),z4)) else some (.brk (s1,s2,s3))) N ((l.length:Int),stT n l a,(s:Int))=some o/\NR K T m n (λl=>okT T u D l.reverse) ac (iE T K (λl=>okT T u D l.reverse) ac n l a s) s o:=by
 intro M
 induction M with
 | zero=>intro l a s N hM;omega
 | succ M ih=>
  intro l a s N hM hN hl hb ha hs;obtain⟨N,rfl⟩:∃ N',N=N'+1:=⟨N - 1,by omega⟩;have hpw:=rD (T:=T) (k:=m) hu.t (by omega);have hT4:=hu.t
  have p0:decide (0<=(l.length:Int))=true:=by rw[Bg];omega
  have ho:=xXp (m:=m) (X:=u.rels.map (xBq T)) (C:=wK D) (s:=(s:Int)) (b:=true) hu hl (show a<=4 by omega)
  by_cases h:a<T
  ·rw[if_pos h] at ho
   have h0:decide ((a:Int)<0)=false:=by rw[Dw];omega
   have qc:ck ((s:Int)+1)=some ((s:Int)+1):=zJ (by omega) (by omega);have qa:ck ((l.length:Int)+1)=some ((l.length:Int)+1):=zJ (by omega) (by omega);have qd:ix (stT n l a) (l.length:Int)=some ((a:Int) - 1):=vE xPk
   by_cases h6:s=K
   ·have qh:decide ((6000:Int)<(s:Int)+1)=true:=decide_eq_true (by omega)
    refine⟨_,wP (r:=(false,7,stT n l a,(s:Int)+1,true)) (by
     simp only[p0,if_true,ho,bnd_s,h0,Af,if_false,qc,qh]),.inr (.inl ⟨_,xSq h h6,rfl,rfl,rfl⟩)⟩
   ·have qe:bK T ((a:Int)::l):=by
     intro x hx
     rcases Av.1 hx with rfl | hx
     ·omega
     ·exact hb x hx
    have qi:bK T ((a:Int)::l).reverse:=λx hx=>qe x (List.mem_reverse.1 hx);have hf:=oFc (p:=l.length) (F:=List.replicate n (-1)) (s:=(s:Int)+1) (b:=true) hu hD qi (by simp) (by simp;omega) (oBj (n:=n) (a:=a) (l:=l))
    have h7:decide ((6000:Int)<(s:Int)+1)=false:=by rw[Dw];omega
    by_cases hk:okT T u D ((a:Int)::l).reverse=true
    ·by_cases he:l.length+1=n
     ·have hq:((l.length:Int)+1==(tl:Int))=true:=by rw[Cy];omega
      refine⟨_,wP (r:=(true,0,((a:Int)::l).reverse,(s:Int)+1,true)) (by
       simp only[p0,if_true,ho,bnd_s,h0,Af,if_false,Ad,qc,h7,qd,hf,hk,Bm,qa,hq]
       rw[xUt he]),.inr (.inr ⟨l,a,s+1,he,h,hb,by omega,by omega,rfl,xVx h h6 hk he⟩)⟩
     ·obtain⟨o,o1,o2⟩:=ih ((a:Int)::l) 0 (s+1) N (by simp;omega) (by omega) (by simp;omega) qe (by omega) (by omega)
      refine⟨o,?_,?_⟩
      ·rw[eT (s':=((((a:Int)::l).length:Int),stT n ((a:Int)::l) 0,((s+1:Nat):Int))) (by
        have hq:((l.length:Int)+1==(tl:Int))=false:=by rw[Dm];omega
        simp only[p0,if_true,ho,bnd_s,h0,Af,if_false,Ad,qc,h7,qd,hf,hk,Bm,qa,hq];rw[oFx (by omega)]
        rfl)]
       exact o1
      ·rw[xXe h h6 hk (by omega)]
       rcases o2 with h | h | ⟨l',a',s',g1,g2,g3,g4,g5,g6,g7⟩
       ·exact .inl h
       ·exact .inr (.inl h)
       ·exact .inr (.inr ⟨l',a',s',g1,g2,g3,by omega,g5,g6,g7⟩)
    ·have qf:okT T u D ((a:Int)::l).reverse=false:=by simpa using hk
     obtain⟨o,o1,o2⟩:=ih l (a+1) (s+1) N (by omega) (by omega) hl hb (by omega) (by omega);refine⟨o,?_,?_⟩
     ·rw[eT (s':=((l.length:Int),stT n l (a+1),((s+1:Nat):Int))) (by
       simp only[p0,if_true,ho,bnd_s,h0,Af,if_false,Ad,qc,h7,qd,hf,qf,Cl];rw[oAg]
       rfl)]
      exact o1
     ·rw[xXr h h6 qf]
      rcases o2 with h | h | ⟨l',a',s',g1,g2,g3,g4,g5,g6,g7⟩
      ·exact .inl h
      ·exact .inr (.inl h)
      ·exact .inr (.inr ⟨l',a',s',g1,g2,g3,by omega,g5,g6,g7⟩)
  ·rw[if_neg h] at ho
   cases l with
   | nil=>
    obtain⟨N,rfl⟩:∃ N',N=N'+1:=⟨N - 1,by simp at hM;omega⟩;refine⟨.nx (-1,(stT n [] a).set 0 (-1),(s:Int)),?_,.inl ⟨s,_,xWl (by omega),rfl⟩⟩
    rw[eT (s':=(-1,(stT n [] a).set 0 (-1),(s:Int))) (by
     simp only[p0,if_true,ho,bnd_s];rw[if_pos (by decide),vE xPk,bnd_s,zJ (by simp) (by simp),bnd_s,Ad]
     simp),bY (by
     simp only
     rw[if_neg (by decide)])]
   | cons x l=>
    have hx:=hb x (Bh ..);rw[Am] at hM hl p0 ho;obtain⟨o,o1,o2⟩:=ih l (x.toNat+1) s N (by omega) (by omega) (by omega) (λy hy=>hb y (Aw _ hy)) (by omega) hs;refine⟨o,?_,by rw[xSv (by omega)];exact o2⟩
    rw[eT (s':=((l.length:Int),stT n l (x.toNat+1),(s:Int))) (by
     simp only[Am,p0,if_true,ho,bnd_s];have qg:=xPk (n:=n) (a:=a) (l:=x::l);rw[Am] at qg;rw[if_pos (by decide),vE qg,bnd_s,zJ (by omega) (by omega),bnd_s,Ad,xZm hx.1 (by omega)]
     congr 3
     omega)]
    exact o1
def FO (m:Nat):Fnd->Op×Int | .out _=>(⟨0,[]⟩,6) | .stop=>(⟨0,[]⟩,7) | .found t=>(⟨(m:Int),t.reverse⟩,0)
theorem xWb {N K:Nat} (hK:(K:Int)=6000) {kind:Int} {tl:Nat} (hu:TV T u) (hm:1<=m/\m<=3) (hD:DueOk T m u.rels B D) (hn:n=T ^ m) (hN:13000<=N) (qe:∀ o,B9 T o m->aZ N (T:Int) o kind=some (acc o)):∀ (M:Nat) (l:List Int) (a s:Nat) (b:Bool),K+1 - s<=M->l.length<n->bK T l->a<=T->s<=K->(b=true->l.length+1=n)->(b=false->l=[])->
 mL (σ:=(List Int)×Int×Bool) (ρ:=Op×Int) (λs=>match s with | (s1,s2,s3)=>xG (eK N u (m:Int) (u.rels.map (xBq T)) (wK D) (List.replicate n (-1)) s1 s2 s3) λz1=>if (z1.2.1 != 0) then some (.ret ((Op.mk 0 ([])),z1.2.1)) else if (!z1.1) then some (.ret ((Op.mk 0 ([])),6)) else xG (gW u (m:Int) (u.rels.map (xBq T)) (wK D) (List.replicate n (-1)) z1.2.2.1 z1.2.2.2.1 z1.2.2.2.2) λz2=>xG (aZ N u.size (Op.mk z2.arity z2.table) kind) λz3=>if z3 then some (.ret ((Op.mk z2.arity z2.table),0)) else some (.go (z1.2.2.1,z1.2.2.2.1,z1.2.2.2.2))) (M+1) (stT n l a,(s:Int),b)=some (.ret (FO m (iE T K (λl=>okT T u D l.reverse) (λl=>acc ⟨(m:Int),l.reverse⟩) n l a s)))/\∀ t,iE T K (λl=>okT T u D l.reverse) (λl=>acc ⟨(m:Int),l.reverse⟩) n l a s= .found t->B9 T ⟨(m:Int),t.reverse⟩ m:=by
 intro M
 induction M with
 | zero=>intro l a s b hM;omega
 | succ M ih=>
  intro l a s b hM hl hb ha hs qh qi;have hpw:=rD (T:=T) (k:=m) hu.t (by omega)
  have qf:(stT n l a).length=n:=by unfold stT;simp;omega
  obtain⟨o,o1,o2⟩:=xWh (n:=n) (ac:=λl=>acc ⟨(m:Int),l.reverse⟩) (tl:=(stT n l a).length) hK hu hm hD hn qf (2*(K+1 - s)+l.length+1) l a s N (Az _) (by omega) hl hb ha hs
  have qc:(oZ (σ:=Int) (ρ:=Bool×Int×(List Int)×Int×Bool) (if b then xG (ck (((stT n l a).length:Int) - 1)) λz4=>some (.nx z4) else some (.nx 0)))=λk=>k (l.length:Int):=by
   cases b with
   | true=>
    have:=qh rfl;rw[if_pos rfl,zJ (by omega) (by omega),bnd_s,show(((stT n l a).length:Int) - 1)=(l.length:Int) by omega]
    rfl
   | false=>
    rw[qi rfl]
    rfl
  have qa:eK N u (m:Int) (u.rels.map (xBq T)) (wK D) (List.replicate n (-1)) (stT n l a) (s:Int) b=oZ (some o) λ(s4,s5,s6)=>some (false,0,s5,s6,true):=by
   unfold eK
   rw[qc];simp only;rw[o1]
  rcases o2 with ⟨s',tab,h1,rfl⟩ | ⟨r,h1,rfl,h2,h3⟩ | ⟨l',a',s',g1,g2,g3,g4,g5,rfl,g7⟩
  ·rw[h1]
   refine⟨?_,λt h=>by cases h⟩
   rw[wP (r:=FO m (.out s')) (by
    simp only[qa,thn_nx,bnd_s]
    rfl)]
  ·rw[h1]
   refine⟨?_,λt h=>by cases h⟩
   rw[wP (r:=FO m .stop) (by
    simp only[qa,thn_ret,bnd_s];rw[h3]
    rfl)]
  ·have qj:bK T ((a':Int)::l'):=by
    intro x hx
    rcases Av.1 hx with rfl | hx
    ·omega
    ·exact g3 x hx
   have qg:B9 T ⟨(m:Int),((a':Int)::l').reverse⟩ m:=⟨rfl,hm.1,hm.2,by simp;omega,λx hx=>qj x (List.mem_reverse.1 hx)⟩;have hk:=qe _ qg;have qd:zO ((a':Int)::l').reverse=some ((a':Int)::l').reverse:=own_eq _ (by simp;omega);rw[g7]
   by_cases hc:acc ⟨(m:Int),((a':Int)::l').reverse⟩=true
   ·rw[if_pos hc]
    refine⟨?_,λt h=>by cases h;exact qg⟩
    rw[wP (r:=FO m (.found ((a':Int)::l'))) (by
     simp only[qa,thn_ret,bnd_s];rw[if_neg (by decide),if_neg (by decide)]
     unfold gW
     rw[qd,bnd_s,bnd_s,hu.s];simp only[hk,bnd_s,hc,if_true]
     rfl)]
   ·rw[if_neg hc]
    obtain⟨q1,q2⟩:=ih l' (a'+1) s' true (by omega) (by omega) g3 (by omega) g5 (λ_=>g1) (λh=>nomatch h);refine⟨?_,q2⟩
    rw[eT (s':=(stT n l' (a'+1),(s':Int),true)) (by
     simp only[qa,thn_ret,bnd_s];rw[if_neg (by decide),if_neg (by decide)]
     unfold gW
     rw[qd,bnd_s,bnd_s,hu.s]
     have qk:acc ⟨(m:Int),((a':Int)::l').reverse⟩=false:=by simpa using hc
     simp only[hk,bnd_s,qk,Af,if_false]
     rw[<- xUt (n:=n) g1,oAg])]
    exact q1
end
theorem xCy {N T m:Nat} {kind:Int} {u:A6} {acc:Op->Bool} (hs:nF u) (ht:nC u=true) (hu:TV T u) (hm:1<=m/\m<=3) (hN:13000<=N) (hkd:1<=kind/\kind<=10) (h1:∀ o N,B9 T o m->13<=N->zN N (T:Int) o kind=some (acc o)) (h2:∀ o N,B9 T o m->13<=N->aZ N (T:Int) o kind=some (acc o)):∃ r,vW N u (m:Int) kind=some r/\vX N u (m:Int) kind=some r/\(r.2=0->B9 T r.1 m):=by
 have e0:zD (A6.mk u.size u.rels)=some (nC u):=mU u hs;have e1:aO u=some (nC u):=uB u hs;have hpw:=rD (T:=T) (k:=m) hu.t (by omega)
 have hw:(decide ((1:Int)<=(m:Int)) && decide ((m:Int)<=3))=true:=by simp;omega
 have qa:(decide (1<=kind) && decide (kind<=10))=true:=by simp;omega
 have hf:gX u (m:Int)=some 0:=by
  unfold gX gY
  rw[e0,ht,bnd_s,if_neg (by simp),fG,bnd_s,hw]
  rfl
 have ha:nR u (m:Int)=some 0:=by
  unfold nR cY
  rw[e1,ht,bnd_s,if_neg (by simp),dV,bnd_s,hw]
  rfl
 obtain⟨z,z1,z2⟩:=xWw (N:=N) hu hm (by omega)
 unfold vW vX xCg
 rw[show A6.mk u.size u.rels=u from rfl,hf,ha,bnd_s,bnd_s,if_neg (by decide),if_neg (by decide),fG,dV,qa,bnd_s,bnd_s,bnd_s,if_neg (by simp),if_neg (by simp),z1,bnd_s]
 rcases z2 with ⟨d1,q,d2⟩ | ⟨d1,D,d2,d3,d4⟩
 ·rw[d1,if_pos rfl,d2,bnd_s]
  exact⟨_,rfl,rfl,λh=>by simp at h⟩
 ·rw[d1,if_neg (by simp),d2,d3,bnd_s,bnd_s]
  obtain⟨r,r1,r2⟩:=xHs (acc:=acc) hu hm d4 h1 (T ^ m) [] 0 N (by simp) (by omega) (λa h=>by simp at h) (by omega);obtain⟨q1,q2⟩:=xWb (n:=T ^ m) (acc:=acc) (kind:=kind) (tl:=T ^ m) (K:=6000) rfl hu hm d4 rfl hN (λo ho=>h2 o N ho (by omega)) 6001 [] 0 0 false (by omega) (by simp;omega) (λa h=>by simp at h) (by omega) (by omega) (λh=>nomatch h) (λ_=>rfl);rw[xWk (by omega)] at q1 q2
  have qc:stT (T ^ m) [] 0=List.replicate (T ^ m) (-1):=by
   unfold stT
   rw[show T ^ m=(T ^ m - 1)+1 by omega,De]
   rfl
  rw[qc] at q1;have q1':=xFt q1 (show 6002<=N by omega);simp only;rw[if_neg (by decide),show((0:Nat):Int)=0 from rfl] at *;rw[q1',thn_ret]
  unfold gQ
  rw[show List.reverse ([]:List Int)=[] from rfl] at r1;rw[r1,bnd_s];generalize xAr T 6000 (λl=>okT T u D l.reverse) (λl=>acc ⟨(m:Int),l.reverse⟩) (T ^ m) [] 0=f at r2 q2
  cases f with
  | out s'=>
   obtain⟨rfl,_⟩:=r2;exact⟨_,rfl,rfl,λh=>by simp [FO] at h⟩
  | stop=>
   obtain⟨g1,_⟩:=r2;simp only[g1];exact⟨_,rfl,rfl,λh=>by simp [FO] at h⟩
  | found t=>
   obtain⟨g1,_,g3⟩:=r2;simp only[g1,g3];exact⟨_,rfl,rfl,λ_=>q2 t rfl⟩
end
section
variable {N:Nat} {T:Nat}
theorem eX.dec {o:Option Bool} {P:Prop} (h:eX o P):o=Option.some (@decide P (Classical.propDecidable P)):=by
 rcases h with ⟨h,e⟩ | ⟨h,e⟩
 ·rw[e];congr 1;exact(@decide_eq_true P (Classical.propDecidable P) h).symm
 ·rw[e];congr 1;exact(@decide_eq_false P (Classical.propDecidable P) h).symm
theorem xWg {u:A6} (hs:nF u) (ht:nC u=true) (hu:TV T u) (hN:13000<=N):∃ r,vW N u 2 6=some r/\vX N u 2 6=some r/\(r.2=0->B9 T r.1 2):= xCy (m:=2) (acc:=λo=>@decide (K6 T 2 o) (Classical.propDecidable _)) hs ht hu (by omega) hN (by omega) (λo M ho hM=>(xDy hu.t ho hM).dec) (λo M ho hM=>(xLo hu.t ho hM).dec)
theorem xYn {u:A6} (hs:nF u) (ht:nC u=true) (hu:TV T u) (hN:13000<=N):∃ r,vW N u 3 7=some r/\vX N u 3 7=some r/\(r.2=0->B9 T r.1 3):= xCy (m:=3) (acc:=λo=>@decide (K7 T 3 o) (Classical.propDecidable _)) hs ht hu (by omega) hN (by omega) (λo M ho hM=>(xEg hu.t ho hM).dec) (λo M ho hM=>(xJw (N:=M) hu.t ho).dec)
theorem xSi {u:A6} (hu:TV T u) (hN:10<=N):∀ (d k M:Nat),k+d=T->d<M->
 (∃ v:Nat,v<T/\qM (σ:=Unit) (ρ:=(Out (Unit) (Int×Op×Int))) (λk4 s=>match s with | _=>xG (bQ N u.size 1 (k4:Int)) λz1=>xG (cA N (A6.mk u.size u.rels) (Op.mk z1.arity z1.table)) λz2=>if z2 then some (.ret (.ret (1,(Op.mk z1.arity z1.table),0))) else some (.go ())) d k ()=some (.ret (.ret (1,pO T (v:Int),0)))/\mL (σ:=Int) (ρ:=Int×Op×Int) (λs1=>oZ (σ:=Bool) (if (decide (s1<u.size)) then  some (.nx true) else  some (.nx false)) λs2=>if s2 then xG (bB N u.size 1 s1) λz3=>xG (aN N u (Op.mk z3.1.arity z3.1.table)) λz4=>if (z4==(-1)) then some (.ret (1,(Op.mk z3.1.arity z3.1.table),0)) else xG (ck (s1+1)) λz5=>some (.go z5) else some (.brk s1)) M (k:Int)=some (.ret (1,pO T (v:Int),0))) ∨
 (qM (σ:=Unit) (ρ:=(Out (Unit) (Int×Op×Int))) (λk4 s=>match s with | _=>xG (bQ N u.size 1 (k4:Int)) λz1=>xG (cA N (A6.mk u.size u.rels) (Op.mk z1.arity z1.table)) λz2=>if z2 then some (.ret (.ret (1,(Op.mk z1.arity z1.table),0))) else some (.go ())) d k ()=some (.nx ())/\∃ e,mL (σ:=Int) (ρ:=Int×Op×Int) (λs1=>oZ (σ:=Bool) (if (decide (s1<u.size)) then  some (.nx true) else  some (.nx false)) λs2=>if s2 then xG (bB N u.size 1 s1) λz3=>xG (aN N u (Op.mk z3.1.arity z3.1.table)) λz4=>if (z4==(-1)) then some (.ret (1,(Op.mk z3.1.arity z3.1.table),0)) else xG (ck (s1+1)) λz5=>some (.go z5) else some (.brk s1)) M (k:Int)=some (.nx e)):=by
 intro d
 induction d with
 | zero=>
  intro k M hk hM;obtain⟨M,rfl⟩:∃ M',M=M'+1:=⟨M - 1,by omega⟩
  right
  refine⟨rfl,(k:Int),?_⟩
  have hf:decide ((k:Int)<u.size)=false:=by rw[Dw,hu.s];omega
  rw[bY (s':=(k:Int)) (by simp only[hf,Af,if_false,thn_nx])]
 | succ d ih=>
  intro k M hk hM;obtain⟨M,rfl⟩:∃ M',M=M'+1:=⟨M - 1,by omega⟩;have qc:=hu.t
  have hv:0<=(k:Int)/\(k:Int)<(T:Int):=by omega
  obtain⟨z,k1,k2,k3⟩:=xLs (N:=N) hN hu (xUj (T:=T) hv);have k1':aN N u (Op.mk (pO T (k:Int)).arity (pO T (k:Int)).table)=some z:=k1;have k3':cA N (A6.mk u.size u.rels) (Op.mk (pO T (k:Int)).arity (pO T (k:Int)).table)=some (u.rels.all (gN N T (pO T (k:Int)))):=k3
  have qd:bQ N u.size 1 (k:Int)=some (pO T (k:Int)):=by rw[hu.s];exact xRd hN qc
  have qa:bB N u.size 1 (k:Int)=some (pO T (k:Int),0):=by rw[hu.s];exact xQm hN qc hv
  have hf:decide ((k:Int)<u.size)=true:=by rw[Bg,hu.s];omega
  by_cases h:u.rels.all (gN N T (pO T (k:Int)))=true
  ·left
   refine⟨k,by omega,mR (by
    simp only[qd,bnd_s,k3',h,if_true]),wP (by
    simp only[hf,if_true,thn_nx,qa,bnd_s,k1',k2,h])⟩
  ·have h':u.rels.all (gN N T (pO T (k:Int)))=false:=by simpa using h
   have g1:(λ(k4:Nat) (s:Unit)=>match s with | _=>xG (bQ N u.size 1 (k4:Int)) λz1=>xG (cA N (A6.mk u.size u.rels) (Op.mk z1.arity z1.table)) λz2=>if z2 then some (Ctl.ret (ρ:=Out (Unit) (Int×Op×Int)) (.ret (1,(Op.mk z1.arity z1.table),0))) else some (.go ())) k ()=some (.go ()):=by
    simp only[qd,bnd_s,k3',h',Af,if_false]
   have qe:ck ((k:Int)+1)=some ((k:Int)+1):=zJ (by omega) (by omega)
   rcases ih (k+1) M (by omega) (by omega) with ⟨v,v1,v2,v3⟩ | ⟨v2,e,v3⟩
   ·left
    refine⟨v,v1,by rw[zM g1];exact v2,?_⟩
    rw[eT (s':=((k+1:Nat):Int)) (by
     simp only[hf,if_true,thn_nx,qa,bnd_s,k1',k2,h',Af,if_false,qe]
     rfl)]
    exact v3
   ·right
    refine⟨by rw[zM g1];exact v2,e,?_⟩
    rw[eT (s':=((k+1:Nat):Int)) (by
     simp only[hf,if_true,thn_nx,qa,bnd_s,k1',k2,h',Af,if_false,qe]
     rfl)]
    exact v3
theorem xNz {ρ:Type}:∀ (l:List Rel) (k:Nat) (b:Bool),oM (σ:=Bool) (ρ:=ρ) (λk1 (x1:Rel) s1=>oZ (σ:=Bool) (if s1 then  some (.nx (decide (0<(x1.tuples.length:Int)))) else  some (.nx false)) λs2=>some (.go s2)) l k b=some (.nx (b && !(l.any λr=>(r.tuples.length:Int)==0)))
 | [],k,b=>by simp [oM]
 | r::l,k,b=>by
  have e:decide (0<(r.tuples.length:Int)) = !((r.tuples.length:Int)==0):=by
   rw[Bool.eq_iff_iff,Bg,Bool.not_eq_true',Dm]
   omega
  rw[vQ (s':=b && !((r.tuples.length:Int)==0)) (by
   cases b
   ·rfl
   ·simp only[if_true,e,thn_nx,Db]),xNz l,Dx,Bool.not_or,Bool.and_assoc]
def oFe (T:Nat) (w:Int) (f:Op):Prop:=(w=1/\∃ v:Nat,v<T/\f=pO T (v:Int))∨(w=2/\B9 T f 2)∨(w=3/\B9 T f 3)∨w=4
theorem xTf {u:A6} (hs:nF u) (ht:nC u=true) (hu:TV T u) (hN:13000<=N):∃ r,lR N u=some r/\mK N u=some r/\(r.2.2=0->oFe T r.1 r.2.1):=by
 have e0:zD (A6.mk u.size u.rels)=some (nC u):=mU u hs;have qe:=hu.t;obtain⟨f,f1,f2,f3⟩:=xWg (N:=N) hs ht hu hN;obtain⟨g,g1,g2,g3⟩:=xYn (N:=N) hs ht hu hN
 have qa:∃ r:Int×Op×Int,(xG (vW N (A6.mk u.size u.rels) 2 6) λz1=>if (z1.2==0) then some (2,(Op.mk z1.1.arity z1.1.table),0) else xG (vW N (A6.mk u.size u.rels) 3 7) λz2=>if (z2.2==0) then some (3,(Op.mk z2.1.arity z2.1.table),0) else oZ (σ:=Bool) (xG (gA u.size) λz3=>if z3 then  xG (qX u.rels (λa0=>iF N a0 (A6.mk u.size u.rels))) λz4=>some (.nx (!z4)) else  some (.nx false)) λs1=>if s1 then xG (gK N u.size) λz5=>some (4,(Op.mk z5.arity z5.table),0) else some (0,(Op.mk 0 ([])),6))=some r ∧
  (xG (vX N u 2 6) λz6=>if (z6.2==0) then some ((2:Int),(Op.mk z6.1.arity z6.1.table),(0:Int)) else xG (vX N u 3 7) λz7=>if (z7.2==0) then some (3,(Op.mk z7.1.arity z7.1.table),0) else xG (eE u.size) λz8=>if (!z8) then some (0,(Op.mk 0 ([])),6) else oZ (σ:=Unit) (oM (λk1 (x1:Rel) s=>match s with | _=>xG (gI N u.size x1) λz9=>if (!z9) then some (.ret (0,(Op.mk 0 ([])),6)) else some (.go ())) u.rels 0 ()) λ_=>xG (eU N u.size) λz10=>some (4,(Op.mk z10.arity z10.table),0))=some r/\(r.2.2=0->oFe T r.1 r.2.1):=by
  rw[show A6.mk u.size u.rels=u from rfl,f1,f2,bnd_s,bnd_s]
  by_cases hf:f.2=0
  ·rw[if_pos (by rw[hf];rfl),if_pos (by rw[hf];rfl)]
   exact⟨_,rfl,rfl,λ_=>.inr (.inl ⟨rfl,f3 hf⟩)⟩
  ·rw[if_neg (by rw[Cy];exact hf),if_neg (by rw[Cy];exact hf),g1,g2,bnd_s,bnd_s]
   by_cases hg:g.2=0
   ·rw[if_pos (by rw[hg];rfl),if_pos (by rw[hg];rfl)]
    exact⟨_,rfl,rfl,λ_=>.inr (.inr (.inl ⟨rfl,g3 hg⟩))⟩
   ·rw[if_neg (by rw[Cy];exact hg),if_neg (by rw[Cy];exact hg),(pG u.size).1,(pG u.size).2,bnd_s,bnd_s]
    by_cases hp:(u.size==2 || u.size==3)=true
    ·rw[hp,if_pos rfl,Bm,if_neg (by simp)]
     have qc:∀ r∈u.rels,eF N u.size r=some (yH N T r)/\gI N u.size r=some (yH N T r):=λr hr=>by
      rw[hu.s];exact xLw hu hr (by omega)
     rw[tF u.rels (λr=>!yH N T r) _ (λr hr=>by
      unfold iF
      rw[show Rel.mk r.arity r.tuples=r from rfl]
      simp only[(qc r hr).1,bnd_s]),bnd_s,thn_nx]
     rw[dC (ρ:=Int×Op×Int) (λ_ r=>if (λr=>!yH N T r) r then some ((0:Int),Op.mk 0 [],(6:Int)) else none) (λj r hj=>by
      simp only[(qc r (Ae hj)).2,bnd_s]
      by_cases hq:(!yH N T r)=true
      ·rw[if_pos hq,if_pos hq];rfl
      ·rw[if_neg hq,if_neg hq];rfl),tE]
     cases qd:u.rels.any λr=>!yH N T r
     ·rw[Cl,if_pos rfl,if_neg (by simp),hu.s,xRt qe (by omega),xQu qe (by omega)]
      exact⟨_,rfl,rfl,λ_=>.inr (.inr (.inr rfl))⟩
     ·rw[Bm,if_neg (by simp),if_pos rfl]
      exact⟨_,rfl,rfl,λh=>by simp at h⟩
    ·have qf:(u.size==2 || u.size==3)=false:=by simpa using hp
     rw[qf,if_neg (by simp),thn_nx,if_neg (by simp),Cl,if_pos rfl];exact⟨_,rfl,rfl,λh=>by simp at h⟩
 obtain⟨r,t1,t2,t3⟩:=qa
 unfold lR mK
 rw[e0,ht,bnd_s,if_neg (by simp)];rw[tF u.rels (λr=>(r.tuples.length:Int)==0) (λa0=>mP a0) (λr _=>rfl),bnd_s,xNz u.rels 0 true,thn_nx,Db]
 cases qd:u.rels.any λr=>(r.tuples.length:Int)==0
 ·rw[Cl,if_pos rfl]
  have qg:u.size.toNat=T:=by rw[hu.s,Ad]
  rw[qg]
  rcases xSi (N:=N) hu (by omega) T 0 N (by omega) (by omega) with ⟨v,v1,v2,v3⟩ | ⟨v2,e,v3⟩
  ·rw[v2]
   rw[show((0:Nat):Int)=0 from rfl] at v3;rw[v3];exact⟨_,rfl,rfl,λ_=>.inl ⟨rfl,v,v1,rfl⟩⟩
  ·rw[v2]
   rw[show((0:Nat):Int)=0 from rfl] at v3;rw[v3,thn_nx,thn_nx,thn_nx];exact⟨r,t1,t2,t3⟩
 ·rw[Bm,if_neg (by simp),thn_nx]
  obtain⟨M,rfl⟩:∃ M,N=M+1:=⟨N - 1,by omega⟩;rw[bY (s':=0) (by split<;>rfl),thn_nx];exact⟨r,t1,t2,t3⟩
theorem xMv {t:A6} {x:A7} (ht:nF t) (hN:13000<=N):∃ r,lZ N t x=some r/\mH N t x=some r:=by
 obtain⟨i1,i2⟩:=xFn (t:=t) (x:=x) ht
 unfold lZ mH
 rw[show A6.mk t.size t.rels=t from rfl,show A7.mk x.vars x.cons=x from rfl,i1,i2,bnd_s,bnd_s]
 by_cases hi:sU t x=true
 ·have qa:nC t=true:=by
   have:=hi;unfold sU at this;simp only[Ba] at this;exact this.1
  have hu:=xLu ht qa;generalize hTe:t.size.toNat=T at hu;obtain⟨r,s1,s2,s3⟩:=xTf (N:=N) ht qa hu hN;rw[hi,Bm,if_neg (by simp),if_neg (by simp),s1,s2,bnd_s,bnd_s]
  by_cases h0:r.2.2=0
  ·have e0:(r.2.2 != 0)=false:=by rw[h0];rfl
   rw[e0,if_neg (by simp),if_neg (by simp)]
   unfold rS
   rw[show A6.mk t.size t.rels=t from rfl,show A7.mk x.vars x.cons=x from rfl];have hT4:=hu.t
   rcases s3 h0 with ⟨w,v,v1,v2⟩ | ⟨w,ho⟩ | ⟨w,ho⟩ | w
   ·obtain⟨q,q1,q2,_⟩:=xJn (N:=N) (x:=x) (v:=(v:Int)) (by omega) ht hi hu.s (by omega)
    have qc:ix (List.replicate T (v:Int)) 0=some (v:Int):=vE (i:=0) (by rw[Dg,if_pos (by omega)]);rw[w,v2]
    unfold pO
    simp only[show((1:Int)==1)=true from rfl,if_true,qc,bnd_s,q1,q2,thn_nx]
    split<;>exact⟨_,rfl,rfl⟩
   ·obtain⟨q,q1,q2⟩:=oAi (N:=N) ht hi hu ho (by omega)
    rw[w,show Op.mk r.2.1.arity r.2.1.table=r.2.1 from rfl];simp only[show((2:Int)==1)=false from rfl,show((2:Int)==2)=true from rfl,Af,if_false,if_true,bnd_s,show Op.mk r.2.1.arity r.2.1.table=r.2.1 from rfl,q1,q2,thn_nx]
    split<;>exact⟨_,rfl,rfl⟩
   ·obtain⟨q,q1,q2⟩:=oBn (N:=N) ht hi hu ho (by omega)
    rw[w,show Op.mk r.2.1.arity r.2.1.table=r.2.1 from rfl];simp only[show((3:Int)==1)=false from rfl,show((3:Int)==2)=false from rfl,show((3:Int)==3)=true from rfl,Af,if_false,if_true,bnd_s,show Op.mk r.2.1.arity r.2.1.table=r.2.1 from rfl,q1,q2,thn_nx]
    split<;>exact⟨_,rfl,rfl⟩
   ·obtain⟨q,q1,q2⟩:=xId (N:=N) ht hi hu (by omega)
    rw[w];simp only[show((4:Int)==1)=false from rfl,show((4:Int)==2)=false from rfl,show((4:Int)==3)=false from rfl,Af,if_false,bnd_s,q1,q2,thn_nx]
    split<;>exact⟨_,rfl,rfl⟩
  ·have e0:(r.2.2 != 0)=true:=by rw[bne_iff_ne];exact h0
   rw[e0,if_pos rfl,if_pos rfl];exact⟨_,rfl,rfl⟩
 ·have qd:sU t x=false:=by simpa using hi
  rw[qd,Cl,if_pos rfl,if_pos rfl];exact⟨_,rfl,rfl⟩
theorem xOp {h:B6} (ht:nF h.template) (hN:13000<=N):∃ r,gL N h=some r/\cP N h=some r:=by
 have e0:zD (A6.mk h.template.size h.template.rels)=some (nC h.template):=mU h.template ht;have e1:aO h.template=some (nC h.template):=uB h.template ht
 have tw:cG (gL N h) (cP N h) (λa b=>a=b):=by
  unfold gL cP
  rw[e0,e1];simp only[bnd_s,fG,dV];refine cG.thn (λa b=>a=b/\(a=false->h.jobs.length<=4)) (λ_ _=>False) ?_ (λa b qa=>?_) (λ_ _ h=>h.elim)
  ·cases nC h.template
   ·exact cG.s ⟨rfl,λh=>nomatch h⟩
   ·rw[Bm,if_neg (by simp)]
    by_cases hj:(decide ((1:Int)<=(h.jobs.length:Int)) && decide ((h.jobs.length:Int)<=4))=true
    ·rw[hj,Bm,if_neg (by simp)]
     rw[Ba,Bg,Bg] at hj;exact cG.s ⟨rfl,λ_=>by omega⟩
    ·have qc:(decide ((1:Int)<=(h.jobs.length:Int)) && decide ((h.jobs.length:Int)<=4))=false:=by simpa using hj
     rw[qc,Cl,if_pos rfl];exact cG.s ⟨rfl,λh=>nomatch h⟩
  ·obtain⟨rfl,hj⟩:=qa
   cases a with
   | true=>exact cG.s rfl
   | false=>
    have hj4:=hj rfl;rw[if_neg (by simp),if_neg (by simp)];refine cG.thn (λa b=>a=b) (λa b=>a=b) (cG.mono (cG.forL (λk a b=>a=b/\a.length=k) (λa b=>a=b) ⟨rfl,rfl⟩ (λk x a b hk hR=>?_)) (λa b qa=>?_)) (λa b qa=>by rw[qa];exact cG.s rfl) (λa b h=>h)
    ·obtain⟨rfl,qd⟩:=hR
     obtain⟨r,r1,r2⟩:=xMv (N:=N) (x:=x) ht hN;have hkl:=(Ac.1 hk).1;rw[show A6.mk h.template.size h.template.rels=h.template from rfl,show A7.mk x.vars x.cons=x from rfl,r1,r2,bnd_s]
     by_cases h0:(r.2.2 != 0)=true
     ·rw[if_pos h0];exact cG.s rfl
     ·rw[if_neg h0,kX (by simp only[Ak];omega),bnd_s]
      exact cG.s ⟨rfl,by simp [qd]⟩
    ·cases a<;>cases b<;>first | exact qa.1 | exact qa
 obtain⟨a,b,t1,t2,rfl⟩:=tw;exact⟨a,t1,t2⟩
end
section
variable {α:Type}
def szG (f:α->Int->Option Int) (x0:List α) (x1:Int):Option Int:= xG (ck (x1 - (x0.length:Int))) λz1=>if (decide (z1<0)) then some ((-1)) else oZ (σ:=Int) (oM (λk1 (x2:α) s32=>xG (f x2 s32) λz2=>if (decide (z2<0)) then some (.ret ((-1))) else some (.go z2)) x0 0 z1) λs1=>some s1
def oFn (f:Int->Option Int) (n:Int):Option Int:= xG (f n) λz1=>if (decide (z1<0)) then some ((-1)) else some z1
def pR (l:List α):Prop:=(l.length:Int)<=9223372036854775807
def xGx (f:α->Int->Option Int) (L Q:α->Prop):Prop:=∀ x n,L x->0<=n->n<=1048576->∃ z,f x n=some z/\(z<0∨(0<=z/\z<=n/\Q x))
theorem xOm {f:α->Int->Option Int} {L Q:α->Prop} (h:xGx f L Q):xGx (szG f) (λl=>pR l/\∀ x∈l,L x) (λl=>l.length<=1048576/\∀ x∈l,Q x):=by
 intro l n hL h0 h1;obtain⟨hl,hx⟩:=hL
 unfold pR at hl
 unfold szG
 rw[zJ (by omega) (by omega),bnd_s]
 by_cases hn:n - (l.length:Int)<0
 ·rw[if_pos (decide_eq_true hn)]
  exact⟨_,rfl,.inl (by decide)⟩
 ·rw[if_neg (by rw[Bg];exact hn)]
  have key:∀ (r:List α) (k:Nat) (s:Int),(∀ x∈r,L x)->0<=s->s<=1048576->(oM (σ:=Int) (ρ:=Int) (λk1 (x1:α) s32=>xG (f x1 s32) λz6=>if (decide (z6<0)) then some (.ret ((-1))) else some (.go z6)) r k s=some (.ret (-1)))∨∃ z,oM (σ:=Int) (ρ:=Int) (λk1 (x1:α) s32=>xG (f x1 s32) λz6=>if (decide (z6<0)) then some (.ret ((-1))) else some (.go z6)) r k s=some (.nx z)/\0<=z/\z<=s/\∀ x∈r,Q x:=by
   intro r
   induction r with
   | nil=>intro k s _ hs _;exact .inr ⟨s,rfl,hs,Int.le_refl _,by simp⟩
   | cons x r ih=>
    intro k s hr hs qa;obtain⟨z,z1,z2⟩:=h x s (hr x (Bh ..)) hs qa
    by_cases hz:z<0
    ·left
     rw[fP (r:=-1) (by rw[z1,bnd_s,if_pos (decide_eq_true hz)])]
    ·obtain⟨z3,z4,z5⟩:0<=z/\z<=s/\Q x:=by
      rcases z2 with h | h
      ·exact absurd h hz
      ·exact h
     rw[vQ (s':=z) (by rw[z1,bnd_s,if_neg (by rw[Bg];exact hz)])]
     rcases ih (k+1) z (λy hy=>hr y (Aw _ hy)) z3 (by omega) with g | ⟨z',g1,g2,g3,g4⟩
     ·exact .inl g
     ·refine .inr ⟨z',g1,g2,by omega,λy hy=>?_⟩
      rcases Av.1 hy with rfl | hy
      ·exact z5
      ·exact g4 y hy
  rcases key l 0 (n - (l.length:Int)) hx (by omega) (by omega) with g | ⟨z,g1,g2,g3,g4⟩
  ·rw[g,thn_ret]
   exact⟨_,rfl,.inl (by decide)⟩
  ·rw[g1,thn_nx]
   exact⟨_,rfl,.inr ⟨g2,by omega,by omega,g4⟩⟩
theorem xJa {β:Type} {f:β->Int->Option Int} {L Q:β->Prop} (h:xGx f L Q) (g:α->β):xGx (λx n=>oFn (f (g x)) n) (λx=>L (g x)) (λx=>Q (g x)):=by
 intro x n hL h0 h1;obtain⟨z,z1,z2⟩:=h (g x) n hL h0 h1;simp only[oFn,z1,bnd_s]
 by_cases hz:z<0
 ·rw[if_pos (decide_eq_true hz)];exact⟨_,rfl,.inl (by decide)⟩
 ·rw[if_neg (by rw[Bg];exact hz)];exact⟨_,rfl,z2⟩
theorem xZr:xGx laws_szInt64S pR (λl=>l.length<=1048576):=by
 intro l n hl h0 h1
 unfold pR at hl
 unfold laws_szInt64S
 rw[zJ (by omega) (by omega),bnd_s]
 by_cases hn:n - (l.length:Int)<0
 ·rw[if_pos (decide_eq_true hn)];exact⟨_,rfl,.inl (by decide)⟩
 ·rw[if_neg (by rw[Bg];exact hn)];exact⟨_,rfl,.inr ⟨by omega,by omega,by omega⟩⟩
theorem oEm:xGx laws_szInt64SS (λl:List (List Int)=>pR l/\∀ x∈l,pR x) (λl=>l.length<=1048576/\∀ x∈l,x.length<=1048576):=xOm xZr
theorem xYc:xGx laws_szRel (λr:Rel=>pR r.tuples/\∀ x∈r.tuples,pR x) (λr=>r.tuples.length<=1048576/\∀ x∈r.tuples,x.length<=1048576):=xJa oEm (λr:Rel=>r.tuples)
theorem xVs:xGx laws_szRelS (λl:List Rel=>pR l/\∀ r∈l,pR r.tuples/\∀ x∈r.tuples,pR x) (λl=>l.length<=1048576/\∀ r∈l,r.tuples.length<=1048576/\∀ x∈r.tuples,x.length<=1048576):=xOm xYc
theorem xMw:xGx laws_szTemplate (λt:A6=>pR t.rels/\∀ r∈t.rels,pR r.tuples/\∀ x∈r.tuples,pR x) (λt=>t.rels.length<=1048576/\∀ r∈t.rels,r.tuples.length<=1048576/\∀ x∈r.tuples,x.length<=1048576):=xJa xVs (λt:A6=>t.rels)
theorem xYj:xGx laws_szCon (λc:Con=>pR c.scope) (λc=>c.scope.length<=1048576):=xJa xZr (λc:Con=>c.scope)
theorem xWo:xGx laws_szConS (λl:List Con=>pR l/\∀ c∈l,pR c.scope) (λl=>l.length<=1048576/\∀ c∈l,c.scope.length<=1048576):=xOm xYj
theorem xMl:xGx laws_szInstance (λx:A7=>pR x.cons/\∀ c∈x.cons,pR c.scope) (λx=>x.cons.length<=1048576/\∀ c∈x.cons,c.scope.length<=1048576):=xJa xWo (λx:A7=>x.cons)
theorem xJv:xGx laws_szInstanceS (λl:List A7=>pR l/\∀ x∈l,pR x.cons/\∀ c∈x.cons,pR c.scope) (λl=>l.length<=1048576/\∀ x∈l,x.cons.length<=1048576/\∀ c∈x.cons,c.scope.length<=1048576):=xOm xMl
def toG (z0:α) (f:α->Option α) (x0:List α):Option (List α):= xG (pN z0 (x0.length:Int)) λz1=>oZ (σ:=List α) (oM (λk1 (x1:α) s1=>xG (f x1) λz2=>xG (ix s1 (k1:Int)) λz3=>some (.go (s1.set ((k1:Int)).toNat z2))) x0 0 z1) λs2=>some s2
theorem xJh {z0:α} {f:α->Option α} {l:List α} (hl:l.length<=1048576) (h:∀ x∈l,f x=some x):toG z0 f l=some l:=by
 unfold toG
 have hz:pN z0 (l.length:Int)=some (List.replicate l.length z0):=by
  unfold pN
  rw[if_pos ⟨by omega,by omega⟩,Ad]
 rw[hz,bnd_s]
 have key:∀ (r pre:List α),(∀ x∈r,f x=some x)->oM (σ:=List α) (ρ:=List α) (λk1 (x1:α) s1=>xG (f x1) λz1=>xG (ix s1 (k1:Int)) λz2=>some (.go (s1.set ((k1:Int)).toNat z1))) r pre.length (pre++List.replicate r.length z0)=some (.nx (pre++r)):=by
  intro r
  induction r with
  | nil=>intro pre _;simp [oM]
  | cons x r ih=>
   intro pre hr
   have hx:(pre++List.replicate (x::r).length z0)[pre.length]?=some z0:=by
    rw[Bb (Az _)];simp
   have hs:(pre++List.replicate (x::r).length z0).set pre.length x=(pre++[x])++List.replicate r.length z0:=by
    rw[List.set_append_right _ _ (Az _)]
    simp [De]
   rw[vQ (s':=(pre++[x])++List.replicate r.length z0) (by rw[hr x (Bh ..),bnd_s,vE hx,bnd_s,Ad,hs])];have:=ih (pre++[x]) (λy hy=>hr y (Aw _ hy));rw[Aq,Ak] at this;rw[this]
   simp
 have:=key l [] h;rw[Bi,Bp] at this;rw[this,thn_nx]
 rfl
theorem oAt {l:List Int} (hl:l.length<=1048576):laws_toInt64S l=some l:=xJh (z0:=0) (f:=some) hl (λ_ _=>rfl)
theorem oDg {l:List (List Int)} (h:l.length<=1048576/\∀ x∈l,x.length<=1048576):laws_toInt64SS l=some l:=xJh (z0:=[]) (f:=laws_toInt64S) h.1 (λx hx=>oAt (h.2 x hx))
theorem oAe {r:Rel} (h:r.tuples.length<=1048576/\∀ x∈r.tuples,x.length<=1048576):laws_toRel r=some r:=by unfold laws_toRel;rw[oDg h,bnd_s]
theorem xVv {l:List Rel} (h:l.length<=1048576/\∀ r∈l,r.tuples.length<=1048576/\∀ x∈r.tuples,x.length<=1048576):laws_toRelS l=some l:=xJh (z0:=Rel.mk 0 []) (f:=laws_toRel) h.1 (λx hx=>oAe (h.2 x hx))
theorem oAv {c:Con} (h:c.scope.length<=1048576):laws_toCon c=some c:=by unfold laws_toCon;rw[oAt h,bnd_s]
theorem xVl {l:List Con} (h:l.length<=1048576/\∀ c∈l,c.scope.length<=1048576):laws_toConS l=some l:=xJh (z0:=Con.mk 0 []) (f:=laws_toCon) h.1 (λx hx=>oAv (h.2 x hx))
theorem xNa {x:A7} (h:x.cons.length<=1048576/\∀ c∈x.cons,c.scope.length<=1048576):laws_toInstance x=some x:=by unfold laws_toInstance;rw[xVl h,bnd_s]
theorem xKs {l:List A7} (h:l.length<=1048576/\∀ x∈l,x.cons.length<=1048576/\∀ c∈x.cons,c.scope.length<=1048576):laws_toInstanceS l=some l:=xJh (z0:=A7.mk 0 []) (f:=laws_toInstance) h.1 (λx hx=>xNa (h.2 x hx))
theorem xMc {t:A6} (h:t.rels.length<=1048576/\∀ r∈t.rels,r.tuples.length<=1048576/\∀ x∈r.tuples,x.length<=1048576):laws_toTemplate t=some t:=by unfold laws_toTemplate;rw[xVv h,bnd_s]
def eqG (f:α->α->Option Bool) (x0 x1:List α):Option Bool:= if ((x0.length:Int) != (x1.length:Int)) then some false else oZ (σ:=Unit) (oM (λk1 (x2:α) s=>match s with | _=>xG (ix x1 (k1:Int)) λz1=>xG (f x2 z1) λz2=>if (!z2) then some (.ret false) else some (.go ())) x0 0 ()) λ_=>some true
theorem xPi {f:α->α->Option Bool} (h:∀ x,f x x=some true) (l:List α):eqG f l l=some true:=by
 unfold eqG
 rw[if_neg (by simp),tK l 0 (λj x hx=>by
  rw[Bj]
  simp only[vE hx,bnd_s,h x,Bm,Af,if_false]),thn_nx]
theorem xZd (l:List Int):laws_eqInt64S l l=some true:=by
 unfold laws_eqInt64S
 rw[if_neg (by simp),tK l 0 (λj x hx=>by
  rw[Bj]
  simp only[vE hx,bnd_s,bne_self_eq_false,Af,if_false]),thn_nx]
theorem oCm (l:List (List Int)):laws_eqInt64SS l l=some true:=xPi (f:=laws_eqInt64S) xZd l
theorem oBi (r:Rel):laws_eqRel r r=some true:=by unfold laws_eqRel;rw[if_neg (by simp),oCm,bnd_s];rfl
theorem xWz (l:List Rel):laws_eqRelS l l=some true:=xPi (f:=laws_eqRel) oBi l
theorem xMf (t:A6):laws_eqTemplate t t=some true:=by unfold laws_eqTemplate;rw[if_neg (by simp),xWz,bnd_s];rfl
theorem xXt (c:Con):laws_eqCon c c=some true:=by unfold laws_eqCon;rw[if_neg (by simp),xZd,bnd_s];rfl
theorem xWe (l:List Con):laws_eqConS l l=some true:=xPi (f:=laws_eqCon) xXt l
theorem xMr (x:A7):laws_eqInstance x x=some true:=by unfold laws_eqInstance;rw[if_neg (by simp),xWe,bnd_s];rfl
theorem xJm (l:List A7):laws_eqInstanceS l l=some true:=xPi (f:=laws_eqInstance) xMr l
theorem xTw (x:B6):laws_eqHouse x x=some true:=by
 unfold laws_eqHouse
 rw[xMf,bnd_s,xJm,bnd_s,if_neg (by simp),if_neg (by simp),if_neg (by simp)]
structure InH (x:B6):Prop where
  r:pR x.template.rels/\∀ r∈x.template.rels,pR r.tuples/\∀ t∈r.tuples,pR t
  j:pR x.jobs/\∀ y∈x.jobs,pR y.cons/\∀ c∈y.cons,pR c.scope
theorem xTe {x:B6} (h:InH x):∃ z,laws_szHouse x 1048576=some z/\(z<0∨((x.template.rels.length<=1048576/\∀ r∈x.template.rels,r.tuples.length<=1048576/\∀ t∈r.tuples,t.length<=1048576)/\(x.jobs.length<=1048576/\∀ y∈x.jobs,y.cons.length<=1048576/\∀ c∈y.cons,c.scope.length<=1048576))):=by
 obtain⟨z,z1,z2⟩:=xMw x.template 1048576 h.r (by omega) (by omega);have z1':laws_szTemplate (A6.mk x.template.size x.template.rels) 1048576=some z:=z1
 unfold laws_szHouse
 rw[z1',bnd_s]
 by_cases hz:z<0
 ·rw[if_pos (decide_eq_true hz)];exact⟨_,rfl,.inl (by decide)⟩
 ·rw[if_neg (by rw[Bg];exact hz)]
  obtain⟨z3,z4,z5⟩:0<=z/\z<=1048576/\_:=by
   rcases z2 with h | h
   ·exact absurd h hz
   ·exact h
  obtain⟨y,y1,y2⟩:=xJv x.jobs z h.j z3 z4;have y1':laws_szInstanceS x.jobs z=some y:=y1;rw[y1',bnd_s]
  by_cases hy:y<0
  ·rw[if_pos (decide_eq_true hy)];exact⟨_,rfl,.inl (by decide)⟩
  ·rw[if_neg (by rw[Bg];exact hy)]
   rcases y2 with g | ⟨_,_,g⟩
   ·exact absurd g hy
   ·exact⟨_,rfl,.inr ⟨z5,g⟩⟩
theorem law_ValidHouse {N:Nat} (hN:13000<=N) {x:B6} (h:InH x):laws_FnExactValidHouse N x=some true:=by
 obtain⟨z,z1,z2⟩:=xTe h;have z1':laws_szHouse (B6.mk (A6.mk x.template.size x.template.rels) x.jobs x.clerks) 1048576=some z:=z1
 unfold laws_FnExactValidHouse
 rw[z1',bnd_s]
 by_cases hz:z<0
 ·rw[if_pos (decide_eq_true hz)]
 ·rw[if_neg (by rw[Bg];exact hz)]
  rcases z2 with g | ⟨g1,g2⟩
  ·exact absurd g hz
  have qa:laws_toHouse (B6.mk (A6.mk x.template.size x.template.rels) x.jobs x.clerks)=some x:=by
   unfold laws_toHouse
   have e1:laws_toTemplate (A6.mk x.template.size x.template.rels)=some x.template:=xMc g1;simp only[e1,xKs g2,bnd_s]
  have ht:nF x.template:=λr hr=>(g1.2 r hr).1;obtain⟨r,r1,r2⟩:=xOp (N:=N) (h:=x) ht hN
  have s1:jH N x=some r.2:=by
   unfold jH
   have:cP N (B6.mk (A6.mk x.template.size x.template.rels) x.jobs x.clerks)=some r:=r2;rw[this,bnd_s]
  have s2:iW N x=some r.2:=by
   unfold iW
   have:gL N (B6.mk (A6.mk x.template.size x.template.rels) x.jobs x.clerks)=some r:=r1;rw[this,bnd_s]
  rw[qa,bnd_s];simp only[show B6.mk (A6.mk x.template.size x.template.rels) x.jobs x.clerks=x from rfl,s1,s2,bnd_s,bne_self_eq_false,Af,if_false,xTw,Bm]
end
section
open Go.ChangeShapes Go.WideShapes Go.ChangeAt Go.RowKit Go.Deep
def tT {α:Type} (P:Program) (e:Ty) (sz:Nat) (R:ER α):Prop:= ∀ (H:Type) (enc:Ty×Vl->H) (W:Wd) (fuel:Nat) (cs:List Vl) (y:DataW H×List MemPlace),DataW.trod enc P W 0 (λ_=>true) true fuel e cs=some y->cs.length=sz/\∃ x bs,R W (λj=>cs[j]?) x bs/\zW bs W
theorem xWy {P:Program} {e:Ty} (h:P.underlying e=some (.int .i64)):tT P e 1 xF:=by
 intro H enc W fuel cs y hy;obtain⟨n,rfl,rfl,hw⟩:=DataW.trod_int h hy;exact⟨rfl,n,[],⟨rfl,bounds_i64 hw,rfl⟩,λ_ h=>by cases h⟩
theorem sD {α:Type} [Inhabited α] {P:Program} {t e:Ty} {sz:Nat} {R:ER α} (ht:P.underlying t=some (.slice e)) (hc:P.cellsOf e=sz) (h0:0<sz) (hR:Fr sz R) (h:tT P e sz R):tT P t 1 (kP sz R):=by
 intro H enc W fuel cs y hy
 rcases Deep.open_slice ht hy with ⟨rfl,rfl⟩ | ⟨a,len,cap,m,n,D,Pl,rfl,_,qh,qe,hm,rfl,hx⟩
 ·exact⟨rfl,[],[],⟨_,rfl,none,0,rfl,Az _,by unfold maxLen;omega,λ_=>rfl,.inl ⟨rfl,rfl⟩⟩,λ_ h=>by cases h⟩
 ·refine⟨rfl,?_⟩
  have hlm:len<=m:=by rw[hm];simp;exact qh
  have ql:∀ i,i<len->∃ z:α×List Nat,R W (λj=>W.cell? ((a.add (i*sz)).add j)) z.1 z.2/\zW z.2 W:=by
   intro i hi;obtain⟨cs',h1,h2⟩:=hx i (by omega);rw[hc] at h1;obtain⟨_,hl,qa⟩:=World.cells?_some h1;obtain⟨_,x,bs,hr,hb⟩:=h H enc W n cs' _ h2;exact⟨(x,bs),hR _ _ _ _ _ _ hr (λ_ _=>rfl) (λj hj=>qa j hj),hb⟩
  obtain⟨Z,hZ⟩:=Deep.choose_lt (α:=α×List Nat) (p:=λi z=>R W (λj=>W.cell? ((a.add (i*sz)).add j)) z.1 z.2/\zW z.2 W) ql
  by_cases qi:len=0
  ·subst qi
   exact⟨[],[],⟨_,rfl,some a,cap,rfl,qh,qe,(λh=>nomatch h),.inl ⟨rfl,rfl⟩⟩,λ_ h=>by cases h⟩
  ·
   obtain⟨cs',h1,_⟩:=hx 0 (by omega);rw[hc] at h1;obtain⟨_,hl,qa⟩:=World.cells?_some h1;have qc:=qa 0 h0;rw[Aa (by omega)] at qc
   have qj:(a.add (0*sz)).add 0=a:=by simp [Addr.add]
   rw[qj] at qc
   have qd:a.spot=none:=by
    unfold World.cell? at qc
    split at qc
    ·split at qc
     ·cases qc
     ·rename_i hs
      simpa using hs
    ·cases qc
   have qf:a.block<W.heap.size:=World.block_lt_of_cell? W a qc;obtain⟨b,o,sp⟩:=a;simp only at qd qf;subst qd
   have qg:∀ i j,((⟨b,o,none⟩:Addr).add i).add j=⟨b,o+i+j,none⟩:=λi j=>by
    unfold Addr.add
    by_cases hi:i=0<;>by_cases hj:j=0<;>simp [hi,hj]
   refine⟨(List.range len).map λi=>(Z i).1,b::((List.range len).map λi=>(Z i).2).flatten,⟨_,rfl,some ⟨b,o,none⟩,cap,by simp,by simpa using qh,qe,(λh=>nomatch h),.inr ⟨b,o,_,rfl,rfl,by simp,λi x bi hx hi=>?_⟩⟩,λc qe=>?_⟩
   ·have qk:i<len:=by
     have:=(Ac.1 hx).1
     simpa using this
    simp only[Ay,Dz qk,Cr] at hx hi
    cases hx
    cases hi
    have h2:=(hZ i qk).1;simp only[qg] at h2;exact h2
   ·rcases Av.1 qe with rfl | qe
    ·exact qf
    ·obtain⟨l,qm,qn⟩:=Bl.1 qe
     obtain⟨i,hi,rfl⟩:=Cv.1 qm;exact(hZ i (List.mem_range.1 hi)).2 c qn
theorem xYl {α:Type} {P:Program} {t:Ty} {sz:Nat} {R:ER α} {r:Reach} {b0:Nat} {fs:Array Field} (ht:P.underlying t=some (.struct fs)) (h:tT P t sz R) {H:Type} {enc:Ty×Vl->H} {W:Wd} {v:Vl} {d:DataW H} {p:List MemPlace} (hv:Value.okWide P W r b0 t v) (hd:DataW.Trod enc P W 0 (λ_=>true) true t v d p):∃ x bs,qS sz R W v x bs/\zW bs W:=by
 obtain⟨cs,rfl,_⟩:=okWide_struct ht hv;obtain⟨l⟩:=cs;obtain⟨fuel,hf⟩:=hd;obtain⟨hl,x,bs,hr,hm⟩:=h H enc W fuel _ _ hf;exact⟨x,bs,⟨l,by simpa [Value.cells] using hl,rfl,by simpa [Value.cells] using hr⟩,hm⟩
theorem xEl {H:Type} {enc:Ty×Vl->H} {P:Program} {W:Wd} {n:Nat} {cs:List Vl} {xs:List (DataW H×List MemPlace)} {fs:Array Field}
 (hone:oneCellFields P fs=true) (hl:cs.length=fs.size) (hxl:xs.length=fs.size)
 (hf:∀ (i:Nat) (f:Field),fs[i]?=some f->DataW.trod enc P W 0 (λ_=>true) true n f.type ((cs.drop f.offset).take (P.cellsOf f.type))=xs[i]?) (i:Nat) (f:Field) (hi:fs[i]?=some f) :
 ∃ c y,cs[i]?=some c/\DataW.trod enc P W 0 (λ_=>true) true n f.type [c]=some y:=by
 obtain⟨ho,hc⟩:=hone_of hone i f hi;have hil:i<fs.size:=(Dh.1 hi).1;have h:=hf i f hi;rw[ho,hc,Aa (by omega)] at h
 have e:(cs.drop i).take 1=[cs[i]'(by omega)]:=by rw[Br (by omega)];rfl
 rw[e] at h;exact⟨_,_,Aa (by omega),h⟩
end
section
open Go.ChangeShapes Go.WideShapes Go.ChangeAt Go.RowKit Go.Deep
theorem Tryz.laidOut:laidOutB Tryz.prog=true:=by kernel_rfl
theorem xCk:tT Tryz.prog 2 1 xF:=xWy Tryz.underlying2
theorem xQd:tT Tryz.prog 58 1 (kP 1 xF):=sD Tryz.underlying58 (by kernel_rfl) (by decide) xF.fr xCk
theorem xZl:tT Tryz.prog 74 1 (kP 1 wC):=sD Tryz.underlying74 (by kernel_rfl) (by decide) wC.fr xQd
theorem xVc:tT Tryz.prog 76 2 oQ:=by
 intro H enc W fuel cs y hy;obtain⟨xs,n,_,rfl,hl,qc,hf⟩:=DataW.trod_struct Tryz.underlying76 hy;have qa:cs.length=2:=hl.trans (by kernel_rfl);have F:=xEl (by kernel_rfl) qa qc hf;obtain⟨c0,y0,h0,t0⟩:=F 0 _ rfl;obtain⟨_,x0,_,⟨q0,r0,rfl⟩,_⟩:=xCk H enc W n _ _ t0;obtain rfl:=Option.some.inj q0;obtain⟨c1,y1,h1,t1⟩:=F 1 _ rfl;obtain⟨_,x1,b1,⟨v1,q1,r1⟩,m1⟩:=xZl H enc W n _ _ t1;obtain rfl:=Option.some.inj q1;exact⟨qa,⟨x0,x1⟩,_,⟨_,_,h0,r0,h1,r1,rfl⟩,m1⟩
theorem xSh:tT Tryz.prog 22 1 (kP 2 oQ):=sD Tryz.underlying22 (by kernel_rfl) (by decide) oQ.fr xVc
theorem xJp:tT Tryz.prog 24 2 xB:=by
 intro H enc W fuel cs y hy;obtain⟨xs,n,_,rfl,hl,qc,hf⟩:=DataW.trod_struct Tryz.underlying24 hy;have qa:cs.length=2:=hl.trans (by kernel_rfl);have F:=xEl (by kernel_rfl) qa qc hf;obtain⟨c0,y0,h0,t0⟩:=F 0 _ rfl;obtain⟨_,x0,_,⟨q0,r0,rfl⟩,_⟩:=xCk H enc W n _ _ t0;obtain rfl:=Option.some.inj q0;obtain⟨c1,y1,h1,t1⟩:=F 1 _ rfl;obtain⟨_,x1,b1,⟨v1,q1,r1⟩,m1⟩:=xSh H enc W n _ _ t1;obtain rfl:=Option.some.inj q1;exact⟨qa,⟨x0,x1⟩,_,⟨_,_,h0,r0,h1,r1,rfl⟩,m1⟩
theorem xVi:tT Tryz.prog 105 2 vS:=by
 intro H enc W fuel cs y hy;obtain⟨xs,n,_,rfl,hl,qc,hf⟩:=DataW.trod_struct Tryz.underlying105 hy;have qa:cs.length=2:=hl.trans (by kernel_rfl);have F:=xEl (by kernel_rfl) qa qc hf;obtain⟨c0,y0,h0,t0⟩:=F 0 _ rfl;obtain⟨_,x0,_,⟨q0,r0,rfl⟩,_⟩:=xCk H enc W n _ _ t0;obtain rfl:=Option.some.inj q0;obtain⟨c1,y1,h1,t1⟩:=F 1 _ rfl;obtain⟨_,x1,b1,⟨v1,q1,r1⟩,m1⟩:=xQd H enc W n _ _ t1;obtain rfl:=Option.some.inj q1;exact⟨qa,⟨x0,x1⟩,_,⟨_,_,h0,r0,h1,r1,rfl⟩,m1⟩
theorem xTr:tT Tryz.prog 52 1 (kP 2 vS):=sD Tryz.underlying52 (by kernel_rfl) (by decide) vS.fr xVi
theorem xLl:tT Tryz.prog 54 2 xH:=by
 intro H enc W fuel cs y hy;obtain⟨xs,n,_,rfl,hl,qc,hf⟩:=DataW.trod_struct Tryz.underlying54 hy;have qa:cs.length=2:=hl.trans (by kernel_rfl);have F:=xEl (by kernel_rfl) qa qc hf;obtain⟨c0,y0,h0,t0⟩:=F 0 _ rfl;obtain⟨_,x0,_,⟨q0,r0,rfl⟩,_⟩:=xCk H enc W n _ _ t0;obtain rfl:=Option.some.inj q0;obtain⟨c1,y1,h1,t1⟩:=F 1 _ rfl;obtain⟨_,x1,b1,⟨v1,q1,r1⟩,m1⟩:=xTr H enc W n _ _ t1;obtain rfl:=Option.some.inj q1;exact⟨qa,⟨x0,x1⟩,_,⟨_,_,h0,r0,h1,r1,rfl⟩,m1⟩
theorem xIj:tT Tryz.prog 25 1 (kP 2 xH):=sD Tryz.underlying25 (by kernel_rfl) (by decide) xH.fr xLl
end
section
theorem oDt:laidOutB Tryz.prog=true:=by kernel_rfl
theorem oCh:mapsRowed Tryz.prog=true:=by kernel_rfl
theorem oCl:Tryz.prog.plainKeys=true:=by kernel_rfl
theorem xXm:Tryz.prog.stopsHeard=true:=by kernel_rfl
theorem oBf:Tryz.prog.mayEnter=true:=by kernel_rfl
theorem oAs:Tryz.prog.liftsFinal=false:=by kernel_rfl
end
end Go.Proofs.YtnjlbbfcngjhmaaGreat
