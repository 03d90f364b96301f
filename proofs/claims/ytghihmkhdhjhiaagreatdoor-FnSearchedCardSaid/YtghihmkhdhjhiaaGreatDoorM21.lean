import Derived.Test.YtghihmkhdhjhiaaGreatDoorM72
namespace Go.Proofs.YtghihmkhdhjhiaaGreatDoor
set_option linter.unusedVariables false
set_option linter.unusedSimpArgs false
theorem xOc (vs sc:List Int):(atV vs sc).length=sc.length:=by unfold atV;exact List.length_map _
theorem xEz {vs sc:List Int} {k:Nat} {v:Int} (h:sc[k]?=some v):(atV vs sc).getD k 0=vs.getD v.toNat 0:=by unfold atV;rw[List.getD_eq_getElem?_getD,List.getElem?_map,h];rfl
theorem xOv (vs sc:List Int):agB sc (atV vs sc)=true:=by
  unfold agB
  rw[Bool.not_eq_true',List.any_eq_false];intro k hk;rw[Bool.not_eq_true,List.any_eq_false];intro q hq;rw[List.mem_range'_1] at hk hq
  unfold agP
  have hkl:sc[k]?=some (sc.getD k 0):=by rw[List.getD_eq_getElem?_getD,List.getElem?_eq_getElem (by omega)];rfl
  have hql:sc[q]?=some (sc.getD q 0):=by rw[List.getD_eq_getElem?_getD,List.getElem?_eq_getElem (by omega)];rfl
  rw[xEz hkl,xEz hql];intro h;simp only[Bool.and_eq_true,beq_iff_eq,bne_iff_ne,ne_eq] at h;exact h.2 (by rw[h.1])
theorem xMt {sc t:List Int} (h:agB sc t=true) {j k:Nat} (hjk:j<k) (hk:k<sc.length) (e:sc.getD k 0=sc.getD j 0):t.getD k 0=t.getD j 0:=by
  unfold agB at h
  rw[Bool.not_eq_true',List.any_eq_false] at h;have h1:=h k (by rw[List.mem_range'_1];omega);rw[Bool.not_eq_true,List.any_eq_false] at h1;have h2:=h1 j (by rw[List.mem_range'_1];omega)
  unfold agP at h2
  simp only[Bool.and_eq_true,beq_iff_eq,bne_iff_ne,ne_eq,not_and,Decidable.not_not] at h2;exact h2 e
theorem xNa {sc t:List Int} (h:agB sc t=true) {j k:Nat} (hj:j<sc.length) (hk:k<sc.length) (e:sc.getD k 0=sc.getD j 0):t.getD k 0=t.getD j 0:=by
  rcases Nat.lt_trichotomy j k with h1 | h1 | h1
  · exact xMt h h1 hk e
  · rw[h1]
  · exact(xMt h h1 hj e.symm).symm
theorem xGv (dom:List (List Int)) (vs:List Int):∀ sc:List Int,(∀ v∈sc,vs.getD v.toNat 0∈dom.getD v.toNat [])→lJ dom sc (atV vs sc)=true
  | [],_=>rfl
  | v::sc,h=>by
    have ih:=xGv dom vs sc (fun w hw=>h w (by simp [hw]))
    show((dom.getD v.toNat []).any (· == vs.getD v.toNat 0) && lJ dom sc (atV vs sc))=true
    rw[ih,Bool.and_true,List.any_eq_true];exact⟨_,h v (by simp),by simp⟩
theorem xDt (dom:List (List Int)):∀ (sc t:List Int),lJ dom sc t=true→∀ (k:Nat) (v a:Int),sc[k]?=some v→t[k]?=some a→a∈dom.getD v.toNat []
  | [],_,_,k,v,a,h1,_=>by simp at h1
  | w::sc,[],_,k,v,a,_,h2=>by simp at h2
  | w::sc,b::t,h,k,v,a,h1,h2=>by
    unfold lJ at h
    rw[Bool.and_eq_true] at h
    cases k with
    | zero=>
      simp at h1 h2
      subst h1 h2;obtain⟨z,hz,e⟩:=List.any_eq_true.1 h.1;rw[beq_iff_eq] at e;exact e ▸ hz
    | succ k=>exact xDt dom sc t h.2 k v a (by simpa using h1) (by simpa using h2)
def Sol (t:Template) (y:Instance) (vs:List Int):Prop:=vs.length=y.vars.toNat∧(∀ v∈vs,0≤v∧v<t.size)∧∀ c∈y.cons,sB t vs c=true
def Fit (dom:List (List Int)) (vs:List Int):Prop:=∀ i,i<dom.length→vs.getD i 0∈dom.getD i []
structure Kp (t:Template) (y:Instance) (D0 d:List (List Int)):Prop where
  len:d.length=D0.length
  sub:∀ i a,a∈d.getD i []→a∈D0.getD i []
  sol:∀ vs,Sol t y vs→Fit D0 vs→Fit d vs
theorem Kp.refl (t:Template) (y:Instance) (D:List (List Int)):Kp t y D D:=⟨rfl,fun _ _ h=>h,fun _ _ h=>h⟩
theorem xLd {t:Template} {y:Instance} {c:Con} {vs:List Int} {dom:List (List Int)} {p:Nat} {v:Int} (hC:CV t y.vars c) (hcm:c∈y.cons) (hS:Sol t y vs) (hl:dom.length=y.vars.toNat) (hd:Fit dom vs) (hp:c.scope[p]?=some v):nK t c dom p (vs.getD v.toNat 0)=true:=by
  obtain⟨hsc,r,r0,r1,r2,r3⟩:=hC
  unfold nK
  rw[dT r0 r1,Option.getD_some,List.any_eq_true];have h:=hS.2.2 c hcm
  unfold sB at h
  rw[decide_eq_true_iff,List.getD_eq_getElem?_getD,r1] at h;refine⟨_,h,?_⟩
  unfold sJ
  rw[xEz hp,xOv,xGv dom vs c.scope (fun w hw=>hd _ (by have:=hsc w hw;omega))]
  simp
theorem Kp.stay {t:Template} {y:Instance} {D0:List (List Int)} {c:Con} (hl:D0.length=y.vars.toNat) (hC:CV t y.vars c) (hcm:c∈y.cons) (p:Nat) (v:Int) (hp:c.scope[p]?=some v):∀ dom a,Kp t y D0 dom→nK t c dom p a=false→Kp t y D0 (dom.set v.toNat ((dom.getD v.toNat []).filter (· != a))):=fun dom a h hb=>by
  have hdl:dom.length=y.vars.toNat:=by rw[h.len,hl]
  refine⟨by rw[List.length_set];exact h.len,fun i b hi=>h.sub i b ?_,fun vs hS hF w hw=>?_⟩
  · by_cases hv:i=v.toNat
    · subst hv
      by_cases hlt:v.toNat<dom.length
      · rw[List.getD_eq_getElem?_getD,List.getElem?_set_self hlt,Option.getD_some] at hi
        exact(List.mem_filter.1 hi).1
      · rw[List.getD_eq_getElem?_getD,List.getElem?_eq_none (by rw[List.length_set];omega)] at hi
        cases hi
    · rw[List.getD_eq_getElem?_getD,List.getElem?_set_ne (fun e=>hv e.symm)] at hi
      rw[List.getD_eq_getElem?_getD];exact hi
  · rw[List.length_set] at hw
    have hfit:=h.sol vs hS hF;have h1:=hfit w hw
    by_cases hv:w=v.toNat
    · subst hv
      rw[List.getD_eq_getElem?_getD (l:=dom.set _ _),List.getElem?_set_self hw,Option.getD_some,List.mem_filter];refine⟨h1,?_⟩;rw[bne_iff_ne];intro e;have:=xLd hC hcm hS hdl hfit hp;rw[e,hb] at this
      cases this
    · rw[List.getD_eq_getElem?_getD (l:=dom.set _ _),List.getElem?_set_ne (fun e=>hv e.symm)]
      rw[List.getD_eq_getElem?_getD (l:=dom)] at h1;exact h1
def prd:List (List Int)→Nat
  | []=>1
  | d::D=>d.length*prd D
theorem uF:∀ (D:List (List Int)) (i:Nat) (d w:List Int),D[i]?=some d→prd (D.set i w)*d.length=prd D*w.length
  | [],i,d,w,h=>by simp at h
  | x::D,0,d,w,h=>by
    simp at h
    subst h
    show w.length*prd D*x.length=x.length*prd D*w.length
    rw[Nat.mul_right_comm,Nat.mul_comm w.length,Nat.mul_right_comm]
  | x::D,i+1,d,w,h=>by
    have:=uF D i d w (by simpa using h)
    show x.length*prd (D.set i w)*d.length=x.length*prd D*w.length
    rw[Nat.mul_assoc,this,Nat.mul_assoc]
theorem xJe:∀ (D E:List (List Int)),D.length=E.length→(∀ i,(D.getD i []).length≤(E.getD i []).length)→prd D≤prd E
  | [],[],_,_=>Nat.le_refl _
  | [],_::_,h,_=>by simp at h
  | _::_,[],h,_=>by simp at h
  | x::D,z::E,h,hl=>Nat.mul_le_mul (by simpa using hl 0) (xJe D E (by simpa using h) (fun i=>by simpa using hl (i+1)))
theorem uH:∀ {D:List (List Int)},jS D→1≤prd D
  | [],_=>Nat.le_refl _
  | x::D,h=>by
    have h1:x≠[]:=h x (by simp)
    have h2:1≤x.length:=by
      cases x with
      | nil=>exact absurd rfl h1
      | cons _ _=>simp
    have h3:=uH (D:=D) (fun d hd=>h d (by simp [hd]));exact Nat.mul_le_mul h2 h3
theorem xFw:∀ {D:List (List Int)},prd D=1→∀ d∈D,d.length=1
  | [],_,d,hd=>by cases hd
  | x::D,h,d,hd=>by
    have hh:x.length*prd D=1:=h;have h1:x.length=1:=Nat.eq_one_of_mul_eq_one_right hh;have h2:prd D=1:=Nat.eq_one_of_mul_eq_one_left hh
    rcases List.mem_cons.1 hd with rfl | hd
    · exact h1
    · exact xFw h2 d hd
theorem xLf (m:Nat) (d:List Int):prd (List.replicate m d)=d.length ^ m:=by
  induction m with
  | zero=>rfl
  | succ m ih=>rw[List.replicate_succ];show d.length*prd _=_;rw[ih,Nat.pow_succ,Nat.mul_comm]
theorem xHt {D:List (List Int)} {i:Nat} {d:List Int} {a:Int} (h:D[i]?=some d) (hn:d.Nodup) (ha:a∈d) (h2:2≤d.length) (hF:jS D) :
    prd (D.set i [a])+prd (D.set i (d.filter (· != a)))=prd D∧1≤prd (D.set i [a])∧prd (D.set i [a])≤prd (D.set i (d.filter (· != a))):=by
  have e1:=uF D i d [a] h;have e2:=uF D i d (d.filter (· != a)) h
  have hlen:(d.filter (· != a)).length+1=d.length:=by
    have h3:d.filter (· != a)=d.erase a:=(hn.erase_eq_filter a).symm;rw[h3,List.length_erase_of_mem ha]
    omega
  have hp:=uH hF;obtain⟨q,hq⟩:∃ q,q=prd (D.set i [a]):=⟨_,rfl⟩;obtain⟨s,hs⟩:∃ s,s=prd (D.set i (d.filter (· != a))):=⟨_,rfl⟩;obtain⟨p,hpp⟩:∃ p,p=prd D:=⟨_,rfl⟩;obtain⟨m,hm⟩:∃ m,m=(d.filter (· != a)).length:=⟨_,rfl⟩;rw[← hq,← hpp,List.length_singleton,Nat.mul_one] at e1;rw[← hs,← hpp,← hm] at e2;rw[← hm] at hlen;rw[← hq,← hs,← hpp];rw[← hpp] at hp;rw[← e1,← hlen] at e2
  have e3:s=q*m:=by
    have:s*(m+1)=q*m*(m+1):=by rw[e2,Nat.mul_right_comm]
    exact Nat.eq_of_mul_eq_mul_right (by omega) this
  have hm1:1≤m:=by omega
  have hq1:1≤q:=by
    rcases Nat.eq_zero_or_pos q with h0 | h0
    · rw[h0,Nat.zero_mul] at e1;omega
    · exact h0
  refine⟨by rw[e3,← e1,← hlen,Nat.mul_add,Nat.mul_one,Nat.add_comm],hq1,?_⟩;rw[e3];exact Nat.le_mul_of_pos_right q hm1
def hdD (D:List (List Int)):List Int:=D.map (fun d=>d.getD 0 0)
theorem xBp (D:List (List Int)) (i:Nat):(hdD D).getD i 0=(D.getD i []).getD 0 0:=by
  unfold hdD
  rw[List.getD_eq_getElem?_getD,List.getElem?_map,List.getD_eq_getElem?_getD (l:=D)]
  cases D[i]?<;>rfl
theorem lZ {d:List Int} (h:d≠[]):d.getD 0 0∈d:=by
  cases d with
  | nil=>exact absurd rfl h
  | cons a d=>simp
theorem nW {D:List (List Int)} (h:jS D) {i:Nat} (hi:i<D.length):D.getD i []≠[]:=by
  rw[List.getD_eq_getElem?_getD,List.getElem?_eq_getElem hi];exact h _ (List.getElem_mem hi)
theorem xLj {d:List Int} (h:d.length=1) {a:Int} (ha:a∈d):a=d.getD 0 0:=by
  match d,h with
  | [b],_=>simpa using ha
theorem xFk {T:Nat} {t:Template} {y:Instance} {D:List (List Int)} {i:Nat} {a:Int} (hu:TV T t) (hC:∀ c∈y.cons,CV t y.vars c) (hl:D.length=y.vars.toNat) (hr:∀ j b,b∈D.getD j []→0≤b∧b<t.size) (hF:jS D) (hS:uZ t y y.cons.length D)
    (hi:i<D.length) (h1:∀ j,j<D.length→j≠i→(D.getD j []).length=1) (ha:a∈D.getD i []):Sol t y (hdD (D.set i [a])):=by
  have hg:∀ j,j<D.length→j≠i→∀ b∈D.getD j [],b=(hdD (D.set i [a])).getD j 0:=fun j hj hne b hb=>by
    rw[xBp,List.getD_eq_getElem?_getD (l:=D.set i [a]),List.getElem?_set_ne (fun e=>hne e.symm),← List.getD_eq_getElem?_getD];exact xLj (h1 j hj hne) hb
  have hgi:(hdD (D.set i [a])).getD i 0=a:=by
    rw[xBp,List.getD_eq_getElem?_getD (l:=D.set i [a]),List.getElem?_set_self hi];rfl
  refine⟨by unfold hdD;rw[List.length_map,List.length_set,hl],fun v hv=>?_,fun c hc=>?_⟩
  · unfold hdD at hv
    obtain⟨d,hd,rfl⟩:=List.mem_map.1 hv
    rcases List.mem_or_eq_of_mem_set hd with hd | rfl
    · obtain⟨j,hj,rfl⟩:=List.mem_iff_getElem.1 hd
      have hm:=lZ (hF _ (List.getElem_mem hj));exact hr j _ (by rw[List.getD_eq_getElem?_getD,List.getElem?_eq_getElem hj];exact hm)
    · exact hr i a ha
  · obtain⟨hsc,r,r0,r1,r2,r3⟩:=hC c hc
    obtain⟨n,e,n1,n4,_,hm⟩:=hu.r r r2
    have hk:c∈y.cons.take y.cons.length:=by rw[List.take_length];exact hc
    have hpos:0<c.scope.length:=by omega
    have key:∃ tt∈r.tuples,agB c.scope tt=true∧lJ D c.scope tt=true∧∀ p v,c.scope[p]?=some v→v.toNat=i→tt.getD p 0=a:=by
      by_cases hex:∃ (p:Nat) (v:Int),c.scope[p]?=some v∧v.toNat=i
      · obtain⟨p,v,hp,hv⟩:=hex
        have hs:=hS c hk p v hp a (by rw[hv];exact ha)
        unfold nK at hs
        rw[dT r0 r1,Option.getD_some,List.any_eq_true] at hs;obtain⟨tt,ht,hs⟩:=hs
        unfold sJ at hs
        rw[Bool.and_eq_true,Bool.and_eq_true,beq_iff_eq] at hs;refine⟨tt,ht,hs.2.1,hs.2.2,fun q w hq hw=>?_⟩;have hpl:=(List.getElem?_eq_some_iff.1 hp).1;have hql:=(List.getElem?_eq_some_iff.1 hq).1;have hpv:=hsc v (List.mem_of_getElem? hp);have hqv:=hsc w (List.mem_of_getElem? hq);rw[← hs.1];refine xNa hs.2.1 hpl hql ?_;rw[List.getD_eq_getElem?_getD,List.getD_eq_getElem?_getD,hp,hq]
        show w=v
        omega
      · have h0:c.scope[0]?=some c.scope[0]:=List.getElem?_eq_getElem hpos
        have hv0:=hsc _ (List.getElem_mem hpos);have hs:=hS c hk 0 _ h0 _ (lZ (nW hF (by omega)))
        unfold nK at hs
        rw[dT r0 r1,Option.getD_some,List.any_eq_true] at hs;obtain⟨tt,ht,hs⟩:=hs
        unfold sJ at hs
        rw[Bool.and_eq_true,Bool.and_eq_true] at hs;exact⟨tt,ht,hs.2.1,hs.2.2,fun q w hq hw=>absurd ⟨q,w,hq,hw⟩ hex⟩
    obtain⟨tt,ht,hag,hlf,hta⟩:=key
    have htl:tt.length=c.scope.length:=by have:=(lO.1 (hm tt ht)).1;omega
    unfold sB
    rw[decide_eq_true_iff,List.getD_eq_getElem?_getD,r1]
    have:atV (hdD (D.set i [a])) c.scope=tt:=by
      apply List.ext_getElem?
      intro k
      by_cases hkl:k<c.scope.length
      · have hkc:c.scope[k]?=some c.scope[k]:=List.getElem?_eq_getElem hkl
        have hkt:tt[k]?=some tt[k]:=List.getElem?_eq_getElem (by omega);have hv:=hsc _ (List.getElem_mem hkl)
        unfold atV
        rw[List.getElem?_map,hkc,hkt]
        show some _=some _
        congr 1
        show(hdD (D.set i [a])).getD (c.scope[k]).toNat 0=tt[k]
        by_cases hki:c.scope[k].toNat=i
        · rw[hki,hgi]
          have:=hta k _ hkc hki;rw[List.getD_eq_getElem?_getD,hkt] at this;exact this.symm
        · exact(hg _ (by omega) hki _ (xDt D c.scope tt hlf k _ _ hkc hkt)).symm
      · rw[List.getElem?_eq_none (by rw[xOc];omega),List.getElem?_eq_none (by omega)]
    rw[this];exact ht
theorem xJh {D:List (List Int)} {i:Nat} {a:Int} (hF:jS D):Fit (D.set i [a]) (hdD (D.set i [a])):=fun j hj=>by
  rw[xBp];refine lZ ?_;rw[List.length_set] at hj
  by_cases h:j=i
  · subst h;rw[List.getD_eq_getElem?_getD,List.getElem?_set_self hj];simp
  · rw[List.getD_eq_getElem?_getD,List.getElem?_set_ne (fun e=>h e.symm),← List.getD_eq_getElem?_getD];exact nW hF hj
def xFv (x:Template) (y:Instance) (D:List (List Int)) (s:ArcStep):Prop:=
  (0≤s.var∧s.var<y.vars)∧s.value∈D.getD s.var.toNat []∧0≤s.con∧∃ c p,y.cons[s.con.toNat]?=some c∧c.scope[p]?=some s.var∧nK x c D p s.value=false
def xFn (D:List (List Int)) (s:ArcStep):List (List Int):=D.set s.var.toNat ((D.getD s.var.toNat []).filter (· != s.value))
inductive Rep (x:Template) (y:Instance) (D:List (List Int)):List ArcStep→List (List Int)→Prop
  | nil:Rep x y D [] D
  | snoc {o:List ArcStep} {d:List (List Int)} {s:ArcStep}:Rep x y D o d→xFv x y d s→Rep x y D (o++[s]) (xFn d s)
theorem xJg {D:List (List Int)} (hF:jS D) {i:Nat} {a:Int} (ha:a∈D.getD i []):prd (D.set i ((D.getD i []).filter (· != a)))+1≤prd D:=by
  have hi:i<D.length:=by
    rcases Nat.lt_or_ge i D.length with h | h
    · exact h
    · rw[List.getD_eq_getElem?_getD,List.getElem?_eq_none h] at ha;cases ha
  have hd:D[i]?=some (D.getD i []):=by rw[List.getD_eq_getElem?_getD,List.getElem?_eq_getElem hi];rfl
  have h1:=uF D i (D.getD i []) ((D.getD i []).filter (· != a)) hd;have h2:=tH ha;have h3:=uH hF
  rcases Nat.lt_or_ge (prd (D.set i ((D.getD i []).filter (· != a)))) (prd D) with h | h
  · exact h
  · have h4:prd D*(D.getD i []).length≤prd (D.set i ((D.getD i []).filter (· != a)))*(D.getD i []).length:=Nat.mul_le_mul_right _ h
    have h5:prd D*((D.getD i []).filter (· != a)).length+prd D≤prd D*(D.getD i []).length:=by
      rw[← Nat.mul_succ];exact Nat.mul_le_mul_left _ h2
    omega
structure KR (x:Template) (y:Instance) (D:List (List Int)) (o:List ArcStep) (d:List (List Int)):Prop where
  kp:Kp x y D d
  rep:Rep x y D o d
  le:o.length+prd d≤prd D
theorem KR.refl (x:Template) (y:Instance) (D:List (List Int)):KR x y D [] D:=⟨Kp.refl x y D,.nil,by simp⟩
theorem KR.stay {t:Template} {y:Instance} {D0:List (List Int)} {c:Con} {kc:Nat} (hl:D0.length=y.vars.toNat) (hC:CV t y.vars c) (hk:y.cons[kc]?=some c) (p:Nat) (v:Int) (hp:c.scope[p]?=some v):xKd (KR t y D0) t c kc p v:=fun out dom a h hF ha hb=>by
  have hsc:=hC.1 v (List.mem_of_getElem? hp);refine⟨Kp.stay hl hC (List.mem_of_getElem? hk) p v hp dom a h.kp hb,Rep.snoc (s:=ArcStep.mk v a (kc:Int)) h.rep ⟨hsc,ha,by simp,c,p,by simpa using hk,hp,hb⟩,?_⟩;have:=xJg hF ha;have:=h.le;rw[List.length_append,List.length_singleton]
  omega
end Go.Proofs.YtghihmkhdhjhiaaGreatDoor
namespace Go.Proofs.YtghihmkhdhjhiaaGreatDoor
set_option linter.unusedVariables false
set_option linter.unusedSimpArgs false
def CtlG {σ σ' ρ ρ':Type} (R:σ→σ'→Prop) (EE:Out σ ρ→Out σ' ρ'→Prop):Ctl σ ρ→Ctl σ' ρ'→Prop
  | .go s,.go s'=>R s s'
  | .brk s,.brk s'=>EE (.nx s) (.nx s')
  | .brk s,.ret r'=>EE (.nx s) (.ret r')
  | .ret r,.brk s'=>EE (.ret r) (.nx s')
  | .ret r,.ret r'=>EE (.ret r) (.ret r')
  | _,_=>False
theorem cI.loop {σ σ' ρ ρ':Type} {P:ρ→ρ'→Prop} (R:σ→σ'→Prop) (μ:σ→Nat) {f:σ→Option (Ctl σ ρ)} {g:σ'→Option (Ctl σ' ρ')} {k:σ→Option ρ} {k':σ'→Option ρ'} :
    ∀ {N:Nat} {s:σ} {s':σ'},μ s<N→R s s'→(∀ s s',R s s'→cI (f s) (g s') (CtlG (fun t t'=>R t t'∧μ t<μ s) (fun e e'=>cI (Go.Proofs.YtghihmkhdhjhiaaGreatDoor.zW (some e) k) (Go.Proofs.YtghihmkhdhjhiaaGreatDoor.zW (some e') k') P)))→cI (Go.Proofs.YtghihmkhdhjhiaaGreatDoor.zW (Go.Proofs.YtghihmkhdhjhiaaGreatDoor.fE f N s) k) (Go.Proofs.YtghihmkhdhjhiaaGreatDoor.zW (Go.Proofs.YtghihmkhdhjhiaaGreatDoor.fE g N s') k') P
  | 0,_,_,h,_,_=>by omega
  | N+1,s,s',hN,h,hh=>by
    obtain⟨a,b,h1,h2,h3⟩:=hh s s' h
    cases a with
    | go t=>
      cases b with
      | go t'=>
        rw[gA h1,gA h2];exact cI.loop R μ (by have:=h3.2;omega) h3.1 hh
      | brk t'=>exact h3.elim
      | ret r'=>exact h3.elim
    | brk t=>
      cases b with
      | go t'=>exact h3.elim
      | brk t'=>rw[cP h1,cP h2];exact h3
      | ret r'=>rw[cP h1,jH h2];exact h3
    | ret r=>
      cases b with
      | go t'=>exact h3.elim
      | brk t'=>rw[jH h1,cP h2];exact h3
      | ret r'=>rw[jH h1,jH h2];exact h3
theorem rI {ρ:Type} (f:ArcStep→Line):∀ (out:List ArcStep) (k:Nat) (s:List Line),s.length+out.length≤1048576→qR (σ:=List Line) (ρ:=ρ) (fun(k:Nat) (x:ArcStep) (s:List Line)=>xZ (ap s [f x]) fun z=>some (.go z)) out k s=some (.nx (s++out.map f))
  | [],_,s,_=>by simp
  | x::out,k,s,h=>by
    rw[List.length_cons] at h;rw[aB (s':=s++[f x]) (by rw[bM (by simp only[List.length_cons,List.length_nil];omega),bnd_s]),rI f out (k+1) _ (by simp only[List.length_append,List.length_singleton];omega)]
    simp
theorem uW {ρ:Type}:∀ (dom:List (List Int)) (k:Nat) (s:List Int),jS dom→s.length+dom.length≤1048576→qR (σ:=List Int) (ρ:=ρ) (fun(k:Nat) (x:List Int) (s:List Int)=>xZ (ix x 0) fun z=>xZ (ap s [z]) fun z2=>some (.go z2)) dom k s=some (.nx (s++dom.map (fun d=>d.getD 0 0)))
  | [],_,s,_,_=>by simp
  | x::dom,k,s,hF,h=>by
    rw[List.length_cons] at h;have hx:0<x.length:=List.length_pos_iff.2 (hF x (by simp));have h0:ix x 0=some (x.getD 0 0):=iJ (k:=0) hx;rw[aB (s':=s++[x.getD 0 0]) (by rw[h0,bnd_s,bM (by simp only[List.length_cons,List.length_nil];omega),bnd_s]),uW dom (k+1) _ (fun d hd=>hF d (by simp [hd])) (by simp only[List.length_append,List.length_singleton];omega)]
    simp
theorem own_lists {ρ:Type} (g:List Int→Option (List Int)) (hg:∀ l:List Int,l.length≤1048576→g l=some l):∀ (dom:List (List Int)) (k:Nat) (s:List (List Int)),(∀ d∈dom,d.length≤1048576)→s.length+dom.length≤1048576→qR (σ:=List (List Int)) (ρ:=ρ) (fun(k:Nat) (x:List Int) (s:List (List Int))=>xZ (g x) fun z=>xZ (ap s [z]) fun z2=>some (.go z2)) dom k s=some (.nx (s++dom))
  | [],_,s,_,_=>by simp
  | x::dom,k,s,hF,h=>by
    rw[List.length_cons] at h;rw[aB (s':=s++[x]) (by rw[hg x (hF x (by simp)),bnd_s,bM (by simp only[List.length_cons,List.length_nil];omega),bnd_s]),own_lists g hg dom (k+1) _ (fun d hd=>hF d (by simp [hd])) (by simp only[List.length_append,List.length_singleton];omega)]
    simp
theorem tA (dom:List (List Int)) (h:∀ d∈dom,d.length≤1048576) (hl:dom.length≤1048576):dA dom=some dom:=by
  unfold dA
  rw[own_lists _ wX dom 0 [] h (by simpa using hl),thn_nx];rfl
theorem xCc (dom:List (List Int)) (h:∀ d∈dom,d.length≤1048576) (hl:dom.length≤1048576):eR dom=some dom:=by
  unfold eR
  rw[own_lists _ own_eq dom 0 [] h (by simpa using hl),thn_nx];rfl
theorem xHn (dom:List (List Int)) (a:Template) (b:Instance) (c d:Int) (e:List Line) (f:List Int) (g:Bool):∃ v,iO dom=some v∧bK a b c d e f g dom=some v∧ -1≤v∧(0≤v→∃ q,ix dom v=some q∧dom[v.toNat]?=some q∧2≤q.length)∧(v<0→∀ d∈dom,d.length≤1):=by
  unfold iO bK
  obtain⟨s',h1,h2,h3⟩:=xAs (l:=dom) (k:=0) (s:=(-1:Int)) (f:=fun(k67:Nat) (x69:(List Int)) (s63:Int)=>
      zW (σ:=Bool) (
        if (decide (2≤(x69.length:Int))) then   if (decide (s63<0)) then   some (.nx true) else   xZ (ix dom s63) fun z104=>
            some (.nx (decide ((x69.length:Int)<(z104.length:Int)))) else   some (.nx false)) fun s99=>
      if s99 then
        some (Ctl.go (ρ:=Int) (k67:Int))
      else
        some (.go s63)) (g:=fun(k92:Nat) (x94:(List Int)) (s88:Int)=>
      zW (σ:=Bool) (
        if (decide (1<(x94.length:Int))) then   if (decide (s88<0)) then   some (.nx true) else   xZ (ix dom s88) fun z154=>
            some (.nx (decide ((x94.length:Int)<(z154.length:Int)))) else   some (.nx false)) fun s133=>
      if s133 then
        some (Ctl.go (ρ:=Int) (k92:Int))
      else
        some (.go s88)) (fun k s=>-1≤s∧s<(k:Int)∧(0≤s→∃ q,ix dom s=some q∧dom[s.toNat]?=some q∧2≤q.length)∧(s<0→∀ d∈dom.take k,d.length≤1)) ⟨by omega,by omega,(fun h=>by omega),fun _ d hd=>by simp at hd⟩ (fun j x s hj hI=>by
    obtain⟨i1,i2,i3,i4⟩:=hI;rw[Nat.zero_add] at i2 i4 ⊢
    have hd:decide (1<(x.length:Int))=decide (2≤(x.length:Int)):=by
      by_cases h:2≤(x.length:Int)
      · rw[decide_eq_true h,decide_eq_true (by omega)]
      · rw[decide_eq_false h,decide_eq_false (by omega)]
    rw[hd];have hgo:2≤(x.length:Int)→ -1≤(j:Int)∧(j:Int)<((j+1:Nat):Int)∧(0≤(j:Int)→∃ q,ix dom (j:Int)=some q∧dom[(j:Int).toNat]?=some q∧2≤q.length)∧((j:Int)<0→∀ d∈dom.take (j+1),d.length≤1):=fun h=>⟨by omega,by omega,fun _=>⟨x,vH hj,by simpa using hj,by omega⟩,fun h=>by omega⟩
    have hst:(s<0→x.length≤1)→ -1≤s∧s<((j+1:Nat):Int)∧(0≤s→∃ q,ix dom s=some q∧dom[s.toNat]?=some q∧2≤q.length)∧(s<0→∀ d∈dom.take (j+1),d.length≤1):=fun hx=>⟨i1,by omega,i3,fun h d hd=>by
      rw[List.take_add_one,hj] at hd
      rcases List.mem_append.1 hd with hd | hd
      · exact i4 h d hd
      · simp only[Option.toList,List.mem_singleton] at hd
        rw[hd];exact hx h⟩
    by_cases h2:2≤(x.length:Int)
    · rw[decide_eq_true h2]
      by_cases h3:s<0
      · rw[decide_eq_true h3]
        exact⟨(j:Int),rfl,rfl,hgo h2⟩
      · rw[decide_eq_false h3]
        obtain⟨q,q1,q2,q3⟩:=i3 (by omega);simp only[if_true,Bool.false_eq_true,if_false,q1,bnd_s,thn_nx]
        by_cases h4:(x.length:Int)<(q.length:Int)
        · rw[decide_eq_true h4];exact⟨(j:Int),rfl,rfl,hgo h2⟩
        · rw[decide_eq_false h4];exact⟨s,rfl,rfl,hst (fun h=>absurd h h3)⟩
    · rw[decide_eq_false h2]
      exact⟨s,rfl,rfl,hst (fun _=>by omega)⟩)
  rw[h1,h2,thn_nx];exact⟨s',rfl,rfl,h3.1,h3.2.2.1,fun h d hd=>h3.2.2.2 h d (by rw[Nat.zero_add,List.take_length];exact hd)⟩
theorem xIi {N n:Nat} {x:Template} {y:Instance} {bud st cd:Int} {ln:List Line} {vl:List Int} {dom:List (List Int)} (hN:60≤N) (hn:n≤10) (hnv:n=y.vars.toNat) (hC:∀ c∈y.cons,CV x y.vars c) (hy:∀ c∈y.cons,ConOk x c n) (hok:DomOk n 40 dom) (hs0:0≤st) (hs1:st<bud) (hb:bud≤5000) (hln:(ln.length:Int)≤42*st) :
    ∃ dom' out,zP N x.size x.rels y.vars y.cons bud st ln vl cd dom=some (true,st+1,ln++out.map (fun a=>Line.mk 2 a.var a.value a.con),cd,dom')∧kZ N x y dom true=some (out,dom')∧DomOk n 40 dom'∧out.length≤40∧KR x y dom out dom'∧(jS dom'→uZ x y y.cons.length dom'):=by
  have hck:ck (st+1)=some (st+1):=zT (by omega) (by omega);have hlen:=hok.len;have hle:=hok.le
  unfold zP
  rw[if_neg (by simp;omega),hck,bnd_s,tK,bnd_s]
  by_cases hF:jS dom
  · have hok2:DomOk n (tot dom) dom:=⟨hok.len,hok.nd,Nat.le_refl _⟩
    obtain⟨⟨out,dom'⟩,r',h1,h2,rfl,h3,h4,h5,h6⟩:=xKq (N:=N) (K:=KR x y dom) (x:=x) (y:=y) (fun kc c hc p v hp=>KR.stay (by omega) (hC c (List.mem_of_getElem? hc)) hc p v hp) (KR.refl x y dom) (by omega) hy hok2 (by omega) (by omega) (by omega) (by omega) hF;simp only at h3 h4 h5 h6;refine⟨dom',out,?_,h2,⟨h3.len,h3.nd,by omega⟩,by omega,h5,h6⟩;rw[(nU dom).2 hF,if_neg (by simp),show(Template.mk x.size x.rels)=x from rfl,show(Instance.mk y.vars y.cons)=y from rfl,h1,bnd_s];simp only;rw[rI (fun a=>Line.mk 2 a.var a.value a.con) out 0 ln (by omega),thn_nx]
  · have h2:(dom.any (fun d=>(d.length:Int)==0))=true:=by
      cases h3:(dom.any (fun d=>(d.length:Int)==0)) with
      | true=>rfl
      | false=>exact absurd ((nU dom).1 h3) hF
    refine⟨dom,[],?_,xHa (by omega) (by omega) hF,hok,by simp,KR.refl x y dom,fun h=>absurd h hF⟩;rw[h2,if_pos rfl]
    simp
inductive Rn (x:Template) (y:Instance):List (List Int)→List Line→List (List Int)→Prop
  | nil {D:List (List Int)}:Rn x y D [] D
  | rem {D D1:List (List Int)} {l:List Line} {s:ArcStep}:Rn x y D l D1→xFv x y D1 s→Rn x y D (l++[Line.mk 2 s.var s.value s.con]) (xFn D1 s)
  | pair {D D1 D2:List (List Int)} {l s:List Line} {v a i:Int} {q:List Int}:Rn x y D l D1→(0≤v∧v<y.vars)→D1[v.toNat]?=some q→a∈q→2≤q.length→Rn x y (D1.set v.toNat [a]) s D2→(0≤i∧i<y.vars)→D2[i.toNat]?=some []→Rn x y D (l++([Line.mk 1 v a 0]++(s++[Line.mk 3 i 0 0]))) (D1.set v.toNat (q.filter (· != a)))
theorem Rn.reps {x:Template} {y:Instance} {D d:List (List Int)} {l:List Line} (h:Rn x y D l d) {o:List ArcStep} {d':List (List Int)} (hr:Rep x y d o d'):Rn x y D (l++o.map (fun a=>Line.mk 2 a.var a.value a.con)) d':=by
  induction hr with
  | nil=>simpa using h
  | snoc _ hs ih=>
    rw[List.map_append,← List.append_assoc];exact ih.rem hs
theorem xHz {α : Type} (l : List α) (p : α → Bool) (f : α → Option Bool) (hf : ∀ x ∈ l, f x = some (p x)) : ∃ i : Int, zW (qR (σ := Unit) (ρ := Int) (fun (k : Nat) (x : α) (s : Unit) =>
      match s with
      | _=>
        xZ (f x) fun z=>
        if z then
          some (.ret ((k:Int)))
        else
          some (.go ())) l 0 ()) (fun _=>some (-1))=some i∧decide (0≤i)=l.any p∧(l.any p=true→0≤i∧∃ q,l[i.toNat]?=some q∧p q=true):=by
  have key:∀ (l:List α) (k:Nat),(∀ x∈l,f x=some (p x))→(l.any p=true∧∃ (i:Nat) (q:α),qR (σ:=Unit) (ρ:=Int) (fun(k:Nat) (x:α) (s:Unit)=>
      match s with
      | _=>
        xZ (f x) fun z=>
        if z then
          some (.ret ((k:Int)))
        else
          some (.go ())) l k ()=some (.ret (((k+i:Nat)):Int))∧l[i]?=some q∧p q=true)∨(l.any p=false∧qR (σ:=Unit) (ρ:=Int) (fun(k:Nat) (x:α) (s:Unit)=>
      match s with
      | _=>
        xZ (f x) fun z=>
        if z then
          some (.ret ((k:Int)))
        else
          some (.go ())) l k ()=some (.nx ())):=by
    intro l
    induction l with
    | nil=>intro k _;exact .inr ⟨rfl,rfl⟩
    | cons x l ih=>
      intro k hf;have h0:=hf x (by simp)
      by_cases hv:p x=true
      · exact .inl ⟨by simp [hv],0,x,fU (by simp only[h0,bnd_s,hv,if_true];rfl),rfl,hv⟩
      · have hv':p x=false:=by simpa using hv
        rw[aB (s':=()) (by simp only[h0,bnd_s,hv',Bool.false_eq_true,if_false])]
        rcases ih (k+1) (fun z hz=>hf z (by simp [hz])) with ⟨h1,i,q,h2,h3,h4⟩ | ⟨h1,h2⟩
        · exact .inl ⟨by simp [h1],i+1,q,by rw[h2,Nat.add_assoc,Nat.add_comm 1 i],by simpa using h3,h4⟩
        · exact .inr ⟨by simp [hv',h1],h2⟩
  rcases key l 0 hf with ⟨h1,i,q,h2,h3,h4⟩ | ⟨h1,h2⟩
  · exact⟨(i:Int),by rw[h2,thn_ret];simp,by simp [h1],fun _=>⟨by omega,q,by simpa using h3,h4⟩⟩
  · exact⟨-1,by rw[h2,thn_nx],by simp [h1],fun h=>by rw[h1] at h;cases h⟩
def Rg (x:Template) (dom:List (List Int)):Prop:=∀ i a,a∈dom.getD i []→0≤a∧a<x.size
theorem gM {D:List (List Int)} {v:Nat} {q w:List Int} (hq:D[v]?=some q) (hw:∀ a∈w,a∈q):∀ i a,a∈(D.set v w).getD i []→a∈D.getD i []:=fun i a ha=>by
  have hv:=(List.getElem?_eq_some_iff.1 hq).1
  by_cases h:i=v
  · subst h
    rw[List.getD_eq_getElem?_getD,List.getElem?_set_self hv] at ha;rw[List.getD_eq_getElem?_getD,hq];exact hw a ha
  · rw[List.getD_eq_getElem?_getD,List.getElem?_set_ne (fun e=>h e.symm)] at ha
    rw[List.getD_eq_getElem?_getD];exact ha
theorem xFy {D:List (List Int)} {v:Nat} {w:List Int} {vs:List Int} (h:Fit D vs) (hw:vs.getD v 0∈w):Fit (D.set v w) vs:=fun i hi=>by
  rw[List.length_set] at hi
  by_cases e:i=v
  · subst e;rw[List.getD_eq_getElem?_getD (l:=D.set _ _),List.getElem?_set_self hi];exact hw
  · rw[List.getD_eq_getElem?_getD (l:=D.set _ _),List.getElem?_set_ne (fun h=>e h.symm),← List.getD_eq_getElem?_getD];exact h i hi
theorem xGc {D E:List (List Int)} {vs:List Int} (hl:D.length=E.length) (h:Fit D vs) (hs:∀ i a,a∈D.getD i []→a∈E.getD i []):Fit E vs:=fun i hi=>hs i _ (h i (by omega))
theorem xDf:∀ (d e:List Int),d.Nodup→(∀ a∈d,a∈e)→d.length≤e.length
  | [],_,_,_=>by simp
  | a::d,e,h,hs=>by
    obtain⟨h1,h2⟩:=List.nodup_cons.1 h;have h3:a∈e:=hs a (by simp);have h4:=xDf d (e.erase a) h2 (fun b hb=>(List.mem_erase_of_ne (a:=b) (b:=a) (fun e'=>by subst e';exact h1 hb)).2 (hs b (by simp [hb])));have h5:=List.length_erase_of_mem h3;have h6:=List.length_pos_of_mem h3;rw[List.length_cons]
    omega
theorem xGu {v w:Int} {L n:Nat} (h1:v.toNat<L) (h2:L=n) (h3:n=w.toNat):v<w:=by omega
theorem xOy {bud st t:Int} {m:Nat} (h:(bud - st).toNat≤m+1) (h0:st≤t) (h1:t<bud):(bud - (t+1)).toNat≤m:=by omega
theorem xEn {D E:List (List Int)} (hn:∀ d∈D,d.Nodup) (hs:∀ i a,a∈D.getD i []→a∈E.getD i []) (i:Nat):(D.getD i []).length≤(E.getD i []).length:=by
  have hnd:(D.getD i []).Nodup:=by
    by_cases hi:i<D.length
    · rw[List.getD_eq_getElem?_getD,List.getElem?_eq_getElem hi];exact hn _ (List.getElem_mem hi)
    · rw[List.getD_eq_getElem?_getD,List.getElem?_eq_none (by omega)];exact List.nodup_nil
  exact xDf _ _ hnd (fun a ha=>hs i a ha)
theorem xCz:∀ {D:List (List Int)},¬ jS D→prd D=0
  | [],h=>absurd (fun d hd=>nomatch hd) h
  | d::D,h=>by
    unfold prd
    rcases Nat.eq_zero_or_pos d.length with h0 | h0
    · rw[h0,Nat.zero_mul]
    · rw[xCz (D:=D) (fun hF=>h (fun e he=>by
        rcases List.mem_cons.1 he with rfl | he
        · intro h1;rw[h1] at h0;simp at h0
        · exact hF e he)),Nat.mul_zero]
def Hdl (st t:Int) (a b p:Nat):Prop:=(t=st∧a=b)∨2≤p
theorem xPf {a b c:Nat} (h:a≤b+1∨a+1≤b+3*c) (hc:2≤c):a+1≤b+3*c:=by omega
theorem Hdl.l1 {st t:Int} {a b p P:Nat} (h:Hdl st t a b p) (hp:t+p≤st+P):t+1≤st+1∨t+1+1≤st+P:=by
  rcases h with ⟨h,_⟩ | h
  · exact .inl (by omega)
  · exact .inr (by omega)
theorem Hdl.l2 {st t:Int} {a b p P o z:Nat} (h:Hdl st t a b p) (h3:a+3*p≤b+3*P) (hz:z=0) (ho:o+z≤p):a+o+1≤b+1∨a+o+1+1≤b+3*P:=by
  rcases h with ⟨_,h⟩ | h
  · rcases Nat.eq_zero_or_pos p with h2 | h2
    · exact .inl (by omega)
    · exact .inr (by omega)
  · exact .inr (by omega)
theorem inv3 {a o p' p1 p2 p b P c:Nat} (h1:a+3*p≤b+3*P) (h2:o+p'≤p) (h3:p1+p2=p') (h4:c+1≤a+o+1+3*p1):c+3*p2≤b+3*P:=by omega
structure LEnd (x:Template) (y:Instance) (n:Nat) (st:Int) (dom:List (List Int)) (ln:List Line) (r:Bool×Int×(List Line)×(List Int)×Int×(List (List Int))) (r':Bool×Int×(List Line)×(List Int)×Bool×(List (List Int))):Prop where
  eb:r'.1 = !r.1
  est:r'.2.1=r.2.1
  eln:r'.2.2.1=r.2.2.1
  evl:r'.2.2.2.1=r.2.2.2.1
  ecd:r.2.2.2.2.1=0∧r'.2.2.2.2.1=false
  ego:r.1=true→r.2.2.2.1=[]
  elo:st+1≤r.2.1
  ehi:r.1=false→r.2.1≤st+prd dom
  efl:r.1=true→r.2.1≤st+1∨r.2.1+1≤st+prd dom
  ele:(r.2.2.1.length:Int)≤42*r.2.1
  evn:r.2.2.2.1.length≤n
  eno:r.1=true→∀ vs,Sol x y vs→¬ Fit dom vs
  eye:r.1=false→Sol x y r.2.2.2.1∧Fit dom r.2.2.2.1
  ell:r.1=true→r.2.2.1.length≤ln.length+1∨r.2.2.1.length+1≤ln.length+3*prd dom
  ebr:r.1=true→∃ seg i d2,Rn x y dom seg d2∧(0≤i∧i<y.vars)∧d2[i.toNat]?=some []∧r.2.2.1=ln++(seg++[Line.mk 3 i 0 0])
theorem xHi {T n:Nat} {x:Template} {y:Instance} {bud:Int} (hu:TV T x) (hn:n≤10) (hnv:n=y.vars.toNat) (hn1:1≤n) (hC:∀ c∈y.cons,CV x y.vars c) (hy:∀ c∈y.cons,ConOk x c n) (hb:bud≤5000):∀ (m N:Nat) (st:Int) (ln:List Line) (dom:List (List Int)),(bud - st).toNat≤m→m+70≤N→0≤st→(ln.length:Int)≤42*st→DomOk n 40 dom→Rg x dom→st+1≤bud→st+prd dom≤bud →
    cI (vM N x.size x.rels y.vars y.cons bud st ln [] 0 dom) (kB N x y bud st ln [] false dom) (LEnd x y n st dom ln):=by
  intro m
  induction m with
  | zero=>intro N st ln dom hm hN h0 hl hok hrg hs1 hs2;omega
  | succ m ih=>
    intro N st ln dom hm hN h0 hl hok hrg hs1 hs2;obtain⟨N,rfl⟩:∃ k,N=k+1:=⟨N - 1,by omega⟩;rw[vM,kB];refine cI.loop (fun s s'=>∃ d t l,s=(d,t,l,[],0)∧s'=(d,t,l,[],false)∧st≤t∧t<bud∧(l.length:Int)≤42*t∧DomOk n 40 d∧t+prd d≤st+prd dom∧Hdl st t l.length ln.length (prd d)∧l.length+3*prd d≤ln.length+3*prd dom∧(∀ i a,a∈d.getD i []→a∈dom.getD i [])∧(∀ vs,Sol x y vs→Fit dom vs→Fit d vs)∧∃ seg,Rn x y dom seg d∧l=ln++seg) (fun s=>(bud - s.2.1).toNat) (by simp only;omega) ⟨dom,st,ln,rfl,rfl,by omega,by omega,hl,hok,by omega,Or.inl ⟨rfl,rfl⟩,Nat.le_refl _,(fun _ _ h=>h),(fun _ _ h=>h),[],Rn.nil,by simp⟩ (fun s s' hR=>?_);obtain⟨d,t,l,rfl,rfl,ht0,htb0,hll,hdok,hpd,htd,hll3,hsub,hkeep,seg,hseg,hsl⟩:=hR;simp only
    have htb:t≠bud:=by omega
    have ht1:t<bud:=htb0;obtain⟨d',out,e1,e2,hd'ok,hout,hkr,hsup⟩:=xIi (N:=N) (bud:=bud) (st:=t) (cd:=0) (ln:=l) (vl:=[]) (dom:=d) (x:=x) (y:=y) (by omega) hn hnv hC hy hdok (by omega) (by omega) hb hll;have hkp:=hkr.kp;have hrle:=hkr.le;obtain⟨ln',hln'⟩:∃ q,q=l++out.map (fun a=>Line.mk 2 a.var a.value a.con):=⟨_,rfl⟩;rw[← hln'] at e1
    have hln'l:(ln'.length:Int)≤42*t+40:=by rw[hln',List.length_append,List.length_map];omega
    have hbal:Rn x y dom (seg++out.map (fun a=>Line.mk 2 a.var a.value a.con)) d':=hseg.reps hkr.rep;obtain⟨sg,hsg⟩:∃ sg,sg=seg++out.map (fun a=>Line.mk 2 a.var a.value a.con):=⟨_,rfl⟩
    have hlns:ln'=ln++sg:=by rw[hln',hsg,hsl,List.append_assoc]
    rw[← hsg] at hbal
    have hln'e:ln'.length=l.length+out.length:=by rw[hln',List.length_append,List.length_map]
    have hd'len:=hd'ok.len;have hd'le:=hd'ok.le;have hdlen:=hdok.len;have hdomlen:=hok.len;have hck:ck (t+1)=some (t+1):=zT (by omega) (by omega)
    have hsml:∀ q∈d',q.length≤1048576:=fun q hq=>by have:=fX hq;omega
    have hrg':Rg x d':=fun i a ha=>hrg i a (hsub i a (hkp.sub i a ha));have hpd':prd d'≤prd d:=xJe d' d (by omega) (fun i=>xEn hd'ok.nd hkp.sub i);have hkeep':∀ vs,Sol x y vs→Fit dom vs→Fit d' vs:=fun vs h1 h2=>hkp.sol vs h1 (hkeep vs h1 h2);have hsub':∀ i a,a∈d'.getD i []→a∈dom.getD i []:=fun i a ha=>hsub i a (hkp.sub i a ha);refine cI.l e1 ?_;rw[if_pos rfl,if_neg (by simpa using htb)];refine cI.r hck (cI.r e2 ?_);simp only;rw[rI (fun a=>Line.mk 2 a.var a.value a.con) out 0 l (by omega),thn_nx,← hln'];obtain⟨i,i1,i2,i5⟩:=xHz d' (fun q=>(q.length:Int)==0) (fun a0=>dV a0) (fun _ _=>rfl);have i3:vW d' (fun a0=>dV a0)=some i:=i1;have i4:cU x y bud (t+1) ln' [] false d'=some i:=i1;refine cI.l i3 (cI.r i4 ?_)
    cases hany:d'.any (fun q=>(q.length:Int)==0) with
    | true=>
      rw[hany] at i2;have hap:ap ln' [Line.mk 3 i 0 0]=some (ln'++[Line.mk 3 i 0 0]):=bM (by simp only[List.length_cons,List.length_nil];omega);rw[if_pos i2,if_pos i2];refine cI.l hap (cI.r hap (cI.s ?_))
      show cI (zW (some (.ret _)) _) (zW (some (.ret _)) _) _
      rw[thn_ret,thn_ret];obtain⟨hi0,iq,hi1',hi2'⟩:=i5 hany;have hi1:=(List.getElem?_eq_some_iff.1 hi1').1
      have hiq:iq=[]:=by
        have h9:((iq.length:Int)==0)=true:=hi2'
        have h8:(iq.length:Int)=0:=by simpa using h9
        exact List.length_eq_zero_iff.1 (by omega)
      have hie:d'[i.toNat]?=some []:=by rw[hi1',hiq]
      have hnf:¬ jS d':=fun h=>by have:=(nU d').2 h;rw[hany] at this;cases this
      refine cI.s ⟨rfl,rfl,rfl,rfl,⟨rfl,rfl⟩,fun _=>rfl,by simp only;omega,(fun h=>nomatch h),fun _=>?_,by simp only[List.length_append,List.length_singleton];omega,by simp,fun _ vs h1 h2=>?_,(fun h=>nomatch h),fun _=>?_,fun _=>⟨sg,i,d',hbal,⟨hi0,xGu hi1 hd'len hnv⟩,hie,by simp only[hlns,List.append_assoc]⟩⟩
      · exact htd.l1 hpd
      · refine hnf (fun e he h0=>?_)
        obtain⟨j,hj,rfl⟩:=List.mem_iff_getElem.1 he;have:=hkeep' vs h1 h2 j hj;rw[List.getD_eq_getElem?_getD (l:=d'),List.getElem?_eq_getElem hj,Option.getD_some,h0] at this
        cases this
      · show(ln'++[Line.mk 3 i 0 0]).length≤ln.length+1∨(ln'++[Line.mk 3 i 0 0]).length+1≤ln.length+3*prd dom
        rw[List.length_append,List.length_singleton,hln'e];exact htd.l2 hll3 (xCz hnf) hrle
    | false=>
      rw[hany] at i2;have hF':=(nU d').1 hany;have hS':=hsup hF';have hp':=uH hF';rw[if_neg (by rw[i2];simp),if_neg (by rw[i2];simp)];obtain⟨v,b1,b2,b3,b4,b5⟩:=xHn d' x y bud (t+1) ln' [] false;refine cI.l b1 (cI.r b2 ?_)
      by_cases hv:v<0
      · rw[if_pos (by simpa using hv),if_pos (by simpa using hv)]
        rw[uW d' 0 [] hF' (by simp;omega),uW d' 0 [] hF' (by simp;omega),thn_nx,thn_nx];refine cI.s ?_
        show cI (zW (some (.ret _)) _) (zW (some (.ret _)) _) _
        rw[thn_ret,thn_ret]
        have h1:∀ j,j<d'.length→j≠0→(d'.getD j []).length=1:=fun j hj _=>by
          have h2:=nW hF' hj;have h3:(d'.getD j []).length≤1:=b5 hv _ (by rw[List.getD_eq_getElem?_getD,List.getElem?_eq_getElem hj];exact List.getElem_mem hj);have h4:=List.length_pos_iff.2 h2
          omega
        have hm0:=lZ (nW hF' (i:=0) (by omega));have hsol:=xFk (i:=0) hu hC (by omega) hrg' hF' hS' (by omega) h1 hm0
        have h00:(d'.getD 0 []).length=1:=by
          have h3:(d'.getD 0 []).length≤1:=b5 hv _ (by rw[List.getD_eq_getElem?_getD,List.getElem?_eq_getElem (by omega)];exact List.getElem_mem _);have h4:=List.length_pos_iff.2 (nW hF' (i:=0) (by omega))
          omega
        have hself:d'.set 0 [(d'.getD 0 []).getD 0 0]=d':=by
          apply List.ext_getElem?
          intro k
          by_cases hk:k=0
          · subst hk
            rw[List.getElem?_set_self (by omega)]
            have h5:d'[0]?=some (d'.getD 0 []):=by rw[List.getD_eq_getElem?_getD,List.getElem?_eq_getElem (by omega)];rfl
            rw[h5];generalize d'.getD 0 []=e at h00
            match e,h00 with
            | [z],_=>rfl
          · rw[List.getElem?_set_ne (fun e=>hk e.symm)]
        rw[hself] at hsol
        have hfit:Fit d' (hdD d'):=by have:=xJh (i:=0) (a:=(d'.getD 0 []).getD 0 0) hF';rwa [hself] at this
        exact cI.s ⟨rfl,rfl,rfl,rfl,⟨rfl,rfl⟩,(fun h=>nomatch h),by simp only;omega,(fun _=>by show t+1≤st+prd dom;omega),(fun h=>nomatch h),by simp only;omega,by simp;omega,(fun h=>nomatch h),fun _=>(by show Sol x y ([]++hdD d')∧Fit dom ([]++hdD d');rw[List.nil_append];exact⟨hsol,xGc (by omega) hfit hsub'⟩),(fun h=>nomatch h),(fun h=>nomatch h)⟩
      · rw[if_neg (by simpa using hv),if_neg (by simpa using hv)]
        obtain⟨q,q1,q2,q3⟩:=b4 (by omega);have hqm:q∈d':=List.mem_of_getElem? q2;have hq0:ix q 0=some (q.getD 0 0):=iJ (k:=0) (by omega);obtain⟨a,ha⟩:∃ a,a=q.getD 0 0:=⟨_,rfl⟩
        have haq:a∈q:=by rw[ha];exact lZ (hF' q hqm)
        rw[← ha] at hq0;have hap:ap ln' [Line.mk 1 v a 0]=some (ln'++[Line.mk 1 v a 0]):=bM (by simp only[List.length_cons,List.length_nil];omega);have hin:DomOk n 40 (d'.set v.toNat [a]):=hd'ok.set q2 (by simp) (by simp;omega);have hout2:DomOk n 40 (d'.set v.toNat (q.filter (· != a))):=hd'ok.set q2 ((hd'ok.nd q hqm).filter _) (List.length_filter_le _ _);have hvl:=(List.getElem?_eq_some_iff.1 q2).1
        have hqg:d'.getD v.toNat []=q:=by rw[List.getD_eq_getElem?_getD,q2];rfl
        have hra:=hrg' v.toNat a (by rw[hqg];exact haq);obtain⟨p1,p2,p3⟩:=xHt q2 (hd'ok.nd q hqm) haq q3 hF';have hsub1:=gM (w:=[a]) q2 (fun z hz=>by rw[List.mem_singleton.1 hz];exact haq);have hsub2:=gM (w:=q.filter (· != a)) q2 (fun z hz=>(List.mem_filter.1 hz).1);refine cI.l q1 (cI.r q1 (cI.l hq0 (cI.r hq0 (cI.l hap (cI.r hap (cI.l (tA d' hsml (by omega)) (cI.r (xCc d' hsml (by omega)) (cI.l q1 (cI.r q1 ?_)))))))));refine cI.bnd (ih N (t+1) (ln'++[Line.mk 1 v a 0]) (d'.set v.toNat [a]) (xOy hm ht0 ht1) (by omega) (by omega) (by simp only[List.length_append,List.length_singleton];omega) hin (fun i b hb=>hrg' i b (hsub1 i b hb)) (by omega) (by omega)) (fun r r' hE=>?_);obtain⟨b,s2,l2,v2,c2,dd⟩:=r;obtain⟨b',s2',l2',v2',o2,dd'⟩:=r';obtain⟨E1,E2,E3,E4,E5,E6,E7,E8,E8f,E9,E10,E11,E12,El,E13⟩:=hE;simp only at E1 E2 E3 E4 E5 E6 E7 E8 E8f E9 E10 E11 E12 El E13 ⊢;subst E1 E2 E3 E4
        cases b with
        | false=>
          simp only[Bool.not_false,if_true];refine cI.s ?_
          show cI (zW (some (.ret _)) _) (zW (some (.ret _)) _) _
          rw[thn_ret,thn_ret];have E8':=E8 rfl;refine cI.s ⟨rfl,rfl,rfl,rfl,E5,(fun h=>nomatch h),by simp only;omega,(fun _=>by simp only;omega),(fun h=>nomatch h),E9,E10,(fun h=>nomatch h),fun _=>⟨(E12 rfl).1,?_⟩,(fun h=>nomatch h),(fun h=>nomatch h)⟩;exact xGc (by rw[List.length_set];omega) (E12 rfl).2 (fun i b hb=>hsub' i b (hsub1 i b hb))
        | true=>
          simp only[Bool.not_true,Bool.false_eq_true,if_false];obtain⟨rfl,rfl⟩:=E5;have hv2:=E6 rfl;subst hv2;have hql:=hsml q hqm;have hqt:=fX hqm;have hno:=E11 rfl
          have hP1:2≤prd (d'.set v.toNat [a]):=by
            rcases Nat.lt_or_ge (prd (d'.set v.toNat [a])) 2 with h | h
            · exfalso
              have h1:=xFw (D:=d'.set v.toNat [a]) (by omega);refine hno _ (xFk (i:=v.toNat) (a:=a) hu hC (by omega) hrg' hF' hS' hvl (fun j hj hne=>?_) (by rw[hqg];exact haq)) (xJh hF')
              have h2:=h1 (d'.getD j []) (by
                have h3:(d'.set v.toNat [a])[j]?=some (d'.getD j []):=by rw[List.getElem?_set_ne (fun e=>hne e.symm),List.getD_eq_getElem?_getD,List.getElem?_eq_getElem hj];rfl
                exact List.mem_of_getElem? h3)
              exact h2
            · exact h
          have E8':=E8f rfl
          have hs2':s2'+1≤t+1+prd (d'.set v.toNat [a]):=by
            rcases E8' with h | h
            · omega
            · omega
          refine cI.l (mB q a hql (by omega)) (cI.r (pV q a hql) (cI.s ?_));obtain⟨sg2,i2',d2,hb2,hi2v,hd2,hl2⟩:=E13 rfl;have hll4:=xPf (El rfl) hP1;rw[List.length_append,List.length_singleton,hln'e] at hll4;refine⟨⟨_,_,_,rfl,rfl,by omega,by omega,E9,hout2,by omega,Or.inr (by omega),inv3 hll3 hrle p1 hll4,(fun i b hb=>hsub' i b (hsub2 i b hb)),fun vs h1 h2=>?_,sg++([Line.mk 1 v a 0]++(sg2++[Line.mk 3 i2' 0 0])),Rn.pair hbal ⟨by omega,xGu hvl hd'len hnv⟩ q2 haq q3 hb2 hi2v hd2,?_⟩,by simp only;omega⟩
          · have h3:=hkeep' vs h1 h2
            refine xFy h3 (List.mem_filter.2 ⟨?_,?_⟩)
            · have h4:=h3 v.toNat hvl;rwa [hqg] at h4
            · rw[bne_iff_ne]
              intro e;exact hno vs h1 (xFy h3 (by rw[e];simp))
          · rw[hl2,hlns]
            simp only[List.append_assoc]
end Go.Proofs.YtghihmkhdhjhiaaGreatDoor
namespace Go.Proofs.YtghihmkhdhjhiaaGreatDoor
set_option linter.unusedVariables false
set_option linter.unusedSimpArgs false
theorem uO {ρ:Type} {T:Int} {f:Nat→List (List Int)→Option (Ctl (List (List Int)) ρ)} {d:List Int} (hf:∀ k s,s.length≤1000→f k s=some (.go (s++[d]))):∀ (m k:Nat) (s:List (List Int)),s.length+m≤1000→dQ f m k s=some (.nx (s++List.replicate m d))
  | 0,k,s,h=>by simp [dQ]
  | m+1,k,s,h=>by
    rw[nZ (hf k s (by omega)),uO (T:=T) hf m (k+1) _ (by simp;omega),List.replicate_succ,List.append_assoc]
    rfl
theorem xAi {T:Nat} {t:Template} {y:Instance} (hu:TV T t) (hv:1≤y.vars∧y.vars≤10):kS t y=some (List.replicate y.vars.toNat (lF 0 T)):=by
  have hT:=hu.t
  unfold kS
  rw[uO (T:=0) (d:=lF 0 T) (fun k s hs=>by
    rw[hu.s,xMb (by omega) (by omega),bnd_s,bM (by simp only[List.length_cons,List.length_nil];omega),bnd_s]) y.vars.toNat 0 [] (by simp only[List.length_nil];omega),thn_nx,List.nil_append]
theorem xGw {T:Nat} {t:Template} {y:Instance} (hu:TV T t) (hv:1≤y.vars∧y.vars≤10):dX t y=some (List.replicate y.vars.toNat (lF 0 T)):=by
  have hT:=hu.t
  unfold dX
  rw[uO (T:=0) (d:=lF 0 T) (fun k s hs=>by
    rw[hu.s,xIp (by omega),bnd_s,bM (by simp only[List.length_cons,List.length_nil];omega),bnd_s]) y.vars.toNat 0 [] (by simp only[List.length_nil];omega),thn_nx,List.nil_append]
theorem xMc (m:Nat) (d:List Int):tot (List.replicate m d)=m*d.length:=by
  unfold tot
  induction m with
  | zero=>simp
  | succ m ih=>rw[List.replicate_succ,List.map_cons,List.sum_cons,ih,Nat.succ_mul,Nat.add_comm]
theorem xFd (V:Int) (m:Nat):(lF V m).Nodup:=by
  unfold lF
  refine List.Pairwise.map _ (fun a b h=>?_) (List.nodup_range (n:=m));intro h2;exact h (by omega)
theorem xDe {m:Nat} {a:Int}:a∈lF 0 m↔0≤a∧a<(m:Int):=by
  unfold lF
  rw[List.mem_map]
  constructor
  · rintro ⟨i,hi,rfl⟩
    rw[List.mem_range] at hi
    omega
  · rintro ⟨h1,h2⟩
    exact⟨a.toNat,by rw[List.mem_range];omega,by omega⟩
theorem xJk {T:Nat} {t:Template} {y:Instance} (hu:TV T t) {c:Con} (h:CV t y.vars c) (hv:1≤y.vars):ConOk t c y.vars.toNat:=by
  obtain⟨h1,r,r0,r1,r2,r3⟩:=h;obtain⟨n,e,n1,n4,_,hm⟩:=hu.r r r2;exact⟨⟨r,dT r0 r1,fun a ha=>by have:=(lO.1 (hm a ha)).1;omega⟩,fun v hv=>by have:=h1 v hv;omega,by omega⟩
theorem xPj {T:Nat} {t:Template} {n:Int} (hu:TV T t) {c:Con} (h:CV t n c):CW t n c:=by
  obtain⟨h1,r,r0,r1,r2,r3⟩:=h;obtain⟨m,e,n1,n4,_,hm⟩:=hu.r r r2;exact⟨⟨h1,r,r0,r1,r2,r3⟩,by omega⟩
structure Ri (x:Template) (y:Instance):Prop where
  small:sH x
  val:sD x y=true
  five:y.vars≤5
section
variable {x:Template} {y:Instance}
theorem Ri.temp (h:Ri x y):nT x=true:=by
  have:=h.val
  unfold sD at this
  rw[Bool.and_eq_true] at this;exact this.1
theorem Ri.tv (h:Ri x y):TV x.size.toNat x:=xEd h.small h.temp
theorem Ri.vars (h:Ri x y):1≤y.vars∧y.vars≤10:=(uI h.val).1
theorem Ri.cons (h:Ri x y):y.cons.length≤24:=(uI h.val).2.1
theorem Ri.cv (h:Ri x y):∀ c∈y.cons,CV x y.vars c:=(uI h.val).2.2
theorem Ri.cok (h:Ri x y):∀ c∈y.cons,ConOk x c y.vars.toNat:=fun c hc=>xJk h.tv (h.cv c hc) h.vars.1
theorem Ri.size (h:Ri x y):1≤x.size∧x.size≤4:=by
  have h1:=h.tv.t;have h2:=h.tv.s
  omega
theorem Ri.inst (h:Ri x y):eS x y=some true∧kM x y=some true:=by
  have:=xDa (t:=x) (x:=y) h.small;rw[h.val] at this;exact this
theorem Ri.budget (h:Ri x y):aG x y 2000=some 0∧bC x y 2000=some 0:=by
  obtain⟨h1,h2⟩:=h.inst
  unfold aG bC
  rw[show(Template.mk x.size x.rels)=x from rfl,show(Instance.mk y.vars y.cons)=y from rfl,h1,h2,bnd_s,bnd_s,cN,jJ];exact⟨rfl,rfl⟩
def cJ (x:Template) (y:Instance):List (List Int):=List.replicate y.vars.toNat (lF 0 x.size.toNat)
theorem xAe (x:Template) (y:Instance) {i:Nat} (h:i<y.vars.toNat):(cJ x y).getD i []=lF 0 x.size.toNat:=by
  unfold cJ
  rw[List.getD_eq_getElem?_getD,List.getElem?_replicate,if_pos h];rfl
theorem xDp (h:0≤x.size):Rg x (cJ x y):=fun i a ha=>by
  by_cases hi:i<y.vars.toNat
  · rw[xAe x y hi,xDe] at ha;omega
  · unfold cJ at ha
    rw[List.getD_eq_getElem?_getD,List.getElem?_replicate,if_neg hi] at ha
    cases ha
theorem yE (h:Ri x y):DomOk y.vars.toNat 40 (cJ x y):=by
  have hs:=h.size;have hv:=h.vars;refine⟨by simp [cJ],fun d hd=>by rw[List.eq_of_mem_replicate hd];exact xFd _ _,?_⟩
  unfold cJ
  rw[xMc,xCm];have:y.vars.toNat*x.size.toNat≤10*4:=Nat.mul_le_mul (by omega) (by omega)
  omega
theorem xHh (h:Ri x y):prd (cJ x y)≤1024:=by
  have hs:=h.size;have hv:=h.vars;have h5:=h.five
  unfold cJ
  rw[xLf,xCm];have h1:x.size.toNat ^ y.vars.toNat≤4 ^ y.vars.toNat:=Nat.pow_le_pow_left (by omega) _;have h2:4 ^ y.vars.toNat≤4 ^ 5:=Nat.pow_le_pow_right (by omega) (by omega)
  omega
theorem xHe (h:Ri x y) {vs:List Int} (hS:Sol x y vs):Fit (cJ x y) vs:=fun i hi=>by
  have hl:(cJ x y).length=y.vars.toNat:=(yE h).len;have hs:=h.size;rw[xAe x y (by omega),xDe];have h1:=hS.1
  have hm:vs.getD i 0∈vs:=by rw[List.getD_eq_getElem?_getD,List.getElem?_eq_getElem (by omega)];exact List.getElem_mem _
  have:=hS.2.1 _ hm
  omega
end
end Go.Proofs.YtghihmkhdhjhiaaGreatDoor
namespace Go.Proofs.YtghihmkhdhjhiaaGreatDoor
set_option linter.unusedVariables false
set_option linter.unusedSimpArgs false
abbrev LvR:=Bool×Int×(List Line)×(List Int)×Int×(List (List Int))
def Bd (b st:Int) (o:Option LvR) (r:LvR):Prop:=(r.1=true→r.2.2.2.2.1=0)∧(r.2.2.2.2.1=0→st+1≤r.2.1∧(st≤b→(r.2.1≤b→o=some r)∧(b<r.2.1→∃ r':LvR,o=some r'∧r'.1=false∧r'.2.2.2.2.1=7)))
theorem rB {α σ ρ:Type} {f:Nat→α→σ→Option (Ctl σ ρ)} (hf:∀ k x s c,f k x s=some c→∃ s',c= .go s'):∀ {l:List α} {k:Nat} {s:σ} {r:ρ},¬ qR f l k s=some (.ret r)
  | [],k,s,r,h=>by unfold qR at h;cases h
  | x::l,k,s,r,h=>by
    obtain⟨c,h1,h2⟩:=qM h;obtain⟨s',rfl⟩:=hf _ _ _ _ h1;exact rB hf h2
section
variable {sz vr:Int} {rl:List Rel} {cs:List Con} {b:Int}
theorem xJa {N:Nat} {t:Int} {l:List Line} {vl:List Int} {d:List (List Int)} {z} (h:zP N sz rl vr cs 2000 t l vl 0 d=some z) :
    (z.1=false∧z.2.2.2.1=7)∨(z.1=true∧z.2.1=t+1∧z.2.2.2.1=0∧(t≠b→zP N sz rl vr cs b t l vl 0 d=some z)):=by
  unfold zP at h ⊢
  by_cases ht:t=2000
  · rw[if_pos (by simpa using ht)] at h
    obtain rfl:=Option.some.inj h;exact .inl ⟨rfl,rfl⟩
  · rw[if_neg (by simpa using ht)] at h
    obtain⟨t',h1,h⟩:=xB h;have:=(pB h1).2;subst this;obtain⟨e,h2,h⟩:=xB h
    cases e with
    | true=>
      rw[if_pos rfl] at h;obtain rfl:=Option.some.inj h;refine .inr ⟨rfl,rfl,rfl,fun hb=>?_⟩;rw[if_neg (by simpa using hb),h1,bnd_s,h2,bnd_s,if_pos rfl]
    | false=>
      rw[if_neg (by simp)] at h;obtain⟨m,h3,h⟩:=xB h;obtain⟨o,h4,h⟩:=xT h
      cases o with
      | ret r=>
        exfalso
        exact rB (fun k x s c hc=>by
          obtain⟨q,_,hc⟩:=xB hc;obtain rfl:=Option.some.inj hc
          exact⟨_,rfl⟩) h4
      | nx s=>
        obtain rfl:=Option.some.inj h;refine .inr ⟨rfl,rfl,rfl,fun hb=>?_⟩;rw[if_neg (by simpa using hb),h1,bnd_s,h2,bnd_s,if_neg (by simp),h3,bnd_s,h4,thn_nx]
theorem xIo {N:Nat} {l:List Line} {vl:List Int} {d:List (List Int)}:zP N sz rl vr cs b b l vl 0 d=some (false,b,l,7,d):=by
  unfold zP
  rw[if_pos (by simp)]
def Rdb (b t:Int) (g:Option (Ctl ((List (List Int))×Int×(List Line)×(List Int)×Int) LvR)):Ctl ((List (List Int))×Int×(List Line)×(List Int)×Int) LvR→Prop
  | .brk s=>s.2.2.2.2=7
  | .ret r=>(r.1=true→r.2.2.2.2.1=0)∧(r.2.2.2.2.1=0→t+1≤r.2.1∧(t<b→(r.2.1≤b→g=some (.ret r))∧(b<r.2.1→∃ r':LvR,g=some (.ret r')∧r'.1=false∧r'.2.2.2.2.1=7)))
  | .go s=>s.2.2.2.2=0∧t+1≤s.2.1∧(t<b→(s.2.1≤b→g=some (.go s))∧(b<s.2.1→∃ r':LvR,g=some (.ret r')∧r'.1=false∧r'.2.2.2.2.1=7))
theorem xCq {f g:(List (List Int))×Int×(List Line)×(List Int)×Int→Option (Ctl ((List (List Int))×Int×(List Line)×(List Int)×Int) LvR)} (hfg:∀ d t l vl c,f (d,t,l,vl,0)=some c→Rdb b t (g (d,t,l,vl,0)) c) (hg:∀ d l vl,g (d,b,l,vl,0)=some (.brk (d,b,l,vl,7))) :
    ∀ (M:Nat) (d:List (List Int)) (t:Int) (l:List Line) (vl:List Int) (r:LvR),zW (fE f M (d,t,l,vl,0)) (fun(s467,s469,s471,s474,s477)=>some (false,s469,s471,s474,s477,s467))=some r→Bd b t (zW (fE g M (d,t,l,vl,0)) (fun(s467,s469,s471,s474,s477)=>some (false,s469,s471,s474,s477,s467))) r
  | 0,d,t,l,vl,r,h=>by cases h
  | M+1,d,t,l,vl,r,h=>by
    cases hf:f (d,t,l,vl,0) with
    | none=>simp only[fE,hf] at h;cases h
    | some c=>
      have hR:=hfg d t l vl c hf
      cases c with
      | brk s=>
        rw[cP hf] at h;obtain⟨d1,t1,l1,v1,c1⟩:=s;have h7:c1=7:=hR;subst h7;obtain rfl:=Option.some.inj h;exact⟨(fun h=>nomatch h),fun h=>absurd h (show(7:Int)≠0 by decide)⟩
      | ret r1=>
        rw[jH hf] at h;obtain rfl:=Option.some.inj h;refine⟨hR.1,fun h0=>⟨(hR.2 h0).1,fun hb=>?_⟩⟩;have h1:=hR.2 h0
        rcases Int.lt_or_eq_of_le hb with hb | hb
        · obtain⟨h2,h3⟩:=h1.2 hb
          refine⟨fun h=>by rw[jH (h2 h)];rfl,fun h=>?_⟩;obtain⟨r',h4,h5⟩:=h3 h;exact⟨r',by rw[jH h4];rfl,h5⟩
        · subst hb
          exact⟨fun h=>absurd h1.1 (by omega),fun _=>⟨_,by rw[cP (hg d l vl)];rfl,rfl,rfl⟩⟩
      | go s=>
        rw[gA hf] at h;obtain⟨d1,t1,l1,v1,c1⟩:=s;obtain⟨h0,h1,h2⟩:=hR;simp only at h0 h1 h2;subst h0;have hI:=xCq hfg hg M d1 t1 l1 v1 r h;refine⟨hI.1,fun hc=>?_⟩;obtain⟨h3,h4⟩:=hI.2 hc;refine⟨by omega,fun hb=>?_⟩
        rcases Int.lt_or_eq_of_le hb with hb | hb
        · obtain⟨h5,h6⟩:=h2 hb
          rcases(show b<t1∨t1≤b by omega) with h7 | h7
          · obtain⟨r',h8,h9⟩:=h6 h7
            exact⟨fun h=>absurd h (by omega),fun _=>⟨r',by rw[jH h8];rfl,h9⟩⟩
          · rw[gA (h5 h7)]
            exact h4 h7
        · subst hb
          exact⟨fun h=>absurd h (by omega),fun _=>⟨_,by rw[cP (hg d l vl)];rfl,rfl,rfl⟩⟩
theorem xHd:∀ (N:Nat) (st:Int) (ln:List Line) (vl:List Int) (dom:List (List Int)) (r:LvR),vM N sz rl vr cs 2000 st ln vl 0 dom=some r→Bd b st (vM N sz rl vr cs b st ln vl 0 dom) r:=by
  intro N
  induction N with
  | zero=>intro st ln vl dom r h;unfold vM at h;cases h
  | succ N ih=>
    intro st ln vl dom r h;rw[vM] at h ⊢;refine xCq (fun d t l vl c hf=>?_) (fun d l vl=>?_) N dom st ln vl r h
    · simp only at hf ⊢
      obtain⟨z,h1,hf⟩:=xB hf
      rcases xJa (b:=b) h1 with ⟨h2,h3⟩ | ⟨h2,h3,h4,h5⟩
      · rw[if_neg (by rw[h2];simp)] at hf
        obtain rfl:=Option.some.inj hf;exact h3
      · rw[if_pos h2] at hf
        obtain⟨i,i1,hf⟩:=xB hf
        by_cases hi:decide (0≤i)=true
        · rw[if_pos hi] at hf
          obtain⟨l2,a1,hf⟩:=xB hf;obtain rfl:=Option.some.inj hf;refine⟨fun _=>h4,fun _=>⟨by show t+1≤z.2.1;omega,fun hb=>⟨fun _=>?_,fun hh=>absurd (show b<z.2.1 from hh) (by omega)⟩⟩⟩;rw[h5 (by omega),bnd_s,if_pos h2,i1,bnd_s,if_pos hi,a1,bnd_s]
        · rw[if_neg hi] at hf
          obtain⟨v,b1,hf⟩:=xB hf
          by_cases hv:decide (v<0)=true
          · rw[if_pos hv] at hf
            obtain⟨o,o1,hf⟩:=xT hf
            cases o with
            | ret r2=>
              exfalso
              exact rB (fun k x s c hc=>by
                obtain⟨q,_,hc⟩:=xB hc;obtain⟨q2,_,hc⟩:=xB hc;obtain rfl:=Option.some.inj hc
                exact⟨_,rfl⟩) o1
            | nx s=>
              obtain rfl:=Option.some.inj hf;refine⟨(fun h=>nomatch h),fun _=>⟨by show t+1≤z.2.1;omega,fun hb=>⟨fun _=>?_,fun hh=>absurd (show b<z.2.1 from hh) (by omega)⟩⟩⟩;rw[h5 (by omega),bnd_s,if_pos h2,i1,bnd_s,if_neg hi,b1,bnd_s,if_pos hv,o1,thn_nx]
          · rw[if_neg hv] at hf
            obtain⟨q,q1,hf⟩:=xB hf;obtain⟨a,a1,hf⟩:=xB hf;obtain⟨l2,l1,hf⟩:=xB hf;obtain⟨dd,d1,hf⟩:=xB hf;obtain⟨q2,q3,hf⟩:=xB hf;obtain⟨w,w1,hf⟩:=xB hf;rw[h4] at w1;have hI:=ih _ _ _ _ _ w1
            by_cases hw:(!w.1)=true
            · rw[if_pos hw] at hf
              obtain rfl:=Option.some.inj hf;refine⟨(fun h=>nomatch h),fun h0=>?_⟩;obtain⟨k1,k2⟩:=hI.2 h0;refine⟨by show t+1≤w.2.1;omega,fun hb=>?_⟩;obtain⟨k3,k4⟩:=k2 (by omega);refine⟨fun hh=>?_,fun hh=>?_⟩
              · rw[h5 (by omega),bnd_s,if_pos h2,i1,bnd_s,if_neg hi,b1,bnd_s,if_neg hv,q1,bnd_s,a1,bnd_s,l1,bnd_s,d1,bnd_s,q3,bnd_s,h4,k3 hh,bnd_s,if_pos hw]
              · obtain⟨r',k5,k6,k7⟩:=k4 hh
                exact⟨(false,r'.2.1,r'.2.2.1,r'.2.2.2.1,r'.2.2.2.2.1,z.2.2.2.2),by rw[h5 (by omega),bnd_s,if_pos h2,i1,bnd_s,if_neg hi,b1,bnd_s,if_neg hv,q1,bnd_s,a1,bnd_s,l1,bnd_s,d1,bnd_s,q3,bnd_s,h4,k5,bnd_s,if_pos (by rw[k6];rfl)],rfl,k7⟩
            · rw[if_neg hw] at hf
              have hwt:w.1=true:=by simpa using hw
              obtain⟨e,e1,hf⟩:=xB hf;obtain rfl:=Option.some.inj hf;have h0:=hI.1 hwt;obtain⟨k1,k2⟩:=hI.2 h0;refine⟨h0,by show t+1≤w.2.1;omega,fun hb=>?_⟩;obtain⟨k3,k4⟩:=k2 (by omega);refine⟨fun hh=>?_,fun hh=>?_⟩
              · rw[h5 (by omega),bnd_s,if_pos h2,i1,bnd_s,if_neg hi,b1,bnd_s,if_neg hv,q1,bnd_s,a1,bnd_s,l1,bnd_s,d1,bnd_s,q3,bnd_s,h4,k3 hh,bnd_s,if_neg hw,e1,bnd_s]
              · obtain⟨r',k5,k6,k7⟩:=k4 hh
                exact⟨(false,r'.2.1,r'.2.2.1,r'.2.2.2.1,r'.2.2.2.2.1,z.2.2.2.2),by rw[h5 (by omega),bnd_s,if_pos h2,i1,bnd_s,if_neg hi,b1,bnd_s,if_neg hv,q1,bnd_s,a1,bnd_s,l1,bnd_s,d1,bnd_s,q3,bnd_s,h4,k5,bnd_s,if_pos (by rw[k6];rfl)],rfl,k7⟩
    · simp only[xIo,bnd_s,Bool.false_eq_true,if_false]
end
end Go.Proofs.YtghihmkhdhjhiaaGreatDoor
namespace Go.Proofs.YtghihmkhdhjhiaaGreatDoor
set_option linter.unusedVariables false
set_option linter.unusedSimpArgs false
theorem xDq {α:Type} {b:Nat→α→Unit→Option (Ctl Unit Bool)} {q:Nat→Bool}:∀ (l:List α) (k:Nat),(∀ j x,l[j]?=some x→b (k+j) x ()=some (if q (k+j) then .ret true else .go ()))→∀ p,p<l.length→q (k+p)=true→qR b l k ()=some (.ret true)
  | [],k,h,p,hp,hq=>by simp at hp
  | x::l,k,h,p,hp,hq=>by
    have h0:=h 0 x rfl;rw[Nat.add_zero] at h0
    by_cases hk:q k=true
    · rw[if_pos hk] at h0;exact fU h0
    · rw[if_neg hk] at h0
      rw[aB h0]
      cases p with
      | zero=>exact absurd hq hk
      | succ p=>exact xDq l (k+1) (fun j y hj=>by rw[Nat.add_assoc,Nat.add_comm 1 j];exact h (j+1) y hj) p (by simpa using hp) (by rw[Nat.add_assoc,Nat.add_comm 1 p];exact hq)
section
variable {x:Template} {y:Instance}
theorem xFe (h:Ri x y) {D:List (List Int)} {s:ArcStep} (hl:D.length=y.vars.toNat) (hs:xFv x y D s):cE x y D s=some true:=by
  obtain⟨⟨v0,v1⟩,hv,c0,c,p,hc,hp,hb⟩:=hs;have hvs:=h.vars;have hcl:=h.cons;have hci:=(List.getElem?_eq_some_iff.1 hc).1;have hcok:=h.cok c (List.mem_of_getElem? hc)
  unfold cE
  have e1:(decide (0≤s.var) && decide (s.var≤y.vars - 1))=true:=by simp;omega
  have e2:(decide (0≤s.con) && decide (s.con≤(y.cons.length:Int) - 1))=true:=by simp;omega
  have e3:(D.getD s.var.toNat []).any (· == s.value)=true:=List.any_eq_true.2 ⟨s.value,hv,by simp⟩;rw[zT (by omega) (by omega),bnd_s,cN,bnd_s,e1,Bool.not_true,if_neg (by simp),zT (by omega) (by omega),bnd_s,cN,bnd_s,e2,Bool.not_true,if_neg (by simp),ixD v0 (by omega),bnd_s,nN,bnd_s,e3,Bool.not_true,thn_nx,if_neg (by simp),dT c0 hc,bnd_s];rw[xDq (q:=fun j=>(c.scope.getD j 0==s.var) && !nK x c D j s.value) c.scope 0 (fun j z hj=>?_) p (List.getElem?_eq_some_iff.1 hp).1 (by rw[Nat.zero_add,List.getD_eq_getElem?_getD,hp,hb];simp),thn_ret];rw[Nat.zero_add,List.getD_eq_getElem?_getD,hj,Option.getD_some];obtain⟨h1,_⟩:=yH (N:=10) (dom:=D) (p:=j) s.value (by omega) (hl.symm ▸ hcok) (List.getElem?_eq_some_iff.1 hj).1
  by_cases he:(z==s.var)=true
  · have h1':kP (Template.mk x.size x.rels) (Con.mk c.rel c.scope) D (j:Int) s.value=some (nK x c D j s.value):=h1
    simp only[he,if_true,h1',bnd_s,thn_nx,Bool.true_and]
    cases nK x c D j s.value<;>rfl
  · have he':(z==s.var)=false:=by simpa using he
    simp only[he',Bool.false_eq_true,if_false,thn_nx,Bool.false_and]
theorem xBy {α:Type} (S:List α) (D:α):ix (S++[D]) (S.length:Int)=some D:=dT (by omega) (by simp)
theorem xCp {α:Type} (S:List α) (D E:α):(S++[D]).set ((S.length:Int)).toNat E=S++[E]:=by simp
theorem xFl {α:Type} (S:List α) (D:α):sl (S++[D]) 0 (S.length:Int)=some S:=by
  unfold sl
  rw[if_pos (by simp;omega)]
  simp
theorem xNu {v vars:Int} (h:0≤v∧v<vars):(decide (0≤v) && decide (v≤vars - 1))=true:=by simp;omega
theorem uD {N:Nat} {S:List (List (List Int))} {D:List (List Int)} {C:List Literal} {k v a c:Int} (hv:0≤v∧v<y.vars) (hy:y.vars≤10) (hS:S.length≤1000000) :
    zI N x.size x.rels y.vars y.cons (S++[D]) C (Line.mk k v a c)=(if (k==1) then
   zW (σ:=Bool) (
    xZ (ix D v) fun z62=>
    xZ (vG z62 a) fun z68=>
    if (!z68) then some (.nx true) else some (.nx (decide ((z62.length:Int)<2)))) fun s61=>
   if s61 then
    some (false,(S++[D]),C)
   else
    xZ (dA D) fun z77=>
    xZ (ix z77 v) fun z84=>
    xZ (ap (S++[D]) ([(z77.set (v).toNat ([a]))])) fun z92=>
    xZ (ap C ([(Literal.mk v a)])) fun z107=>
    some (true,z92,z107)
  else
   if (k==2) then
    xZ (cE (Template.mk x.size x.rels) (Instance.mk y.vars y.cons) D (ArcStep.mk v a c)) fun z219=>
    if (!z219) then
     some (false,(S++[D]),C)
    else
     xZ (ix D v) fun z222=>
     xZ (kR N z222 a) fun z228=>
     some (true,((S++[D]).set ((S.length:Int)).toNat (D.set (v).toNat z228)),C)
   else
    if (k==3) then
     xZ (ix D v) fun z260=>
     if (decide (0<(z260.length:Int))) then
      some (false,(S++[D]),C)
     else
      xZ (ix C (S.length:Int)) fun z268=>
      xZ (sl (S++[D]) 0 (S.length:Int)) fun z286=>
      xZ (sl C 0 (S.length:Int)) fun z290=>
      if (decide (0<(S.length:Int))) then
       xZ (ck ((S.length:Int) - 1)) fun z326=>
       xZ (ix z286 z326) fun z328=>
       xZ (ix z328 z268.var) fun z337=>
       xZ (kR N z337 z268.value) fun z343=>
       some (true,(z286.set (z326).toNat (z328.set (z268.var).toNat z343)),z290)
      else
       some (true,z286,z290)
    else
     some (false,(S++[D]),C)):=by
  unfold zI
  have hl:(((S++[D]).length:Int) - 1)=(S.length:Int):=by simp
  rw[hl,zT (by omega) (by omega),bnd_s,if_neg (by simp),zT (by omega) (by omega),bnd_s,cN,bnd_s,xNu hv,Bool.not_true,thn_nx,if_neg (by simp),xBy,bnd_s]
theorem xIg {n:Nat} {D:List (List Int)} (h:DomOk n 40 D) (i:Nat):(D.getD i []).length≤40:=by
  by_cases hi:i<D.length
  · have h1:D.getD i []∈D:=by rw[List.getD_eq_getElem?_getD,List.getElem?_eq_getElem hi];exact List.getElem_mem hi
    have:=fX h1;have:=h.le
    omega
  · rw[List.getD_eq_getElem?_getD,List.getElem?_eq_none (by omega)];simp
theorem xKl (h:Ri x y) {N:Nat} (hN:100≤N) {S:List (List (List Int))} {D:List (List Int)} {C:List Literal} {s:ArcStep} (hS:S.length≤1000000) (hD:DomOk y.vars.toNat 40 D) (hs:xFv x y D s) :
    zI N x.size x.rels y.vars y.cons (S++[D]) C (Line.mk 2 s.var s.value s.con)=some (true,S++[xFn D s],C):=by
  have hvs:=h.vars;have hl:=hD.len;have hg:=xIg hD s.var.toNat;have e1:cE (Template.mk x.size x.rels) (Instance.mk y.vars y.cons) D (ArcStep.mk s.var s.value s.con)=some true:=xFe h hl hs;have hv:=hs.1;rw[uD hv (by omega) hS,if_neg (by decide),if_pos (by decide),e1,bnd_s,if_neg (by simp),ixD hv.1 (by omega),bnd_s,mB _ _ (by omega) (by omega),bnd_s,xCp]
  rfl
theorem xCl (h:Ri x y) {N:Nat} {S:List (List (List Int))} {D:List (List Int)} {C:List Literal} {v a:Int} {q:List Int} (hS:S.length≤1000000) (hC:C.length≤1000000) (hD:DomOk y.vars.toNat 40 D) (hv:0≤v∧v<y.vars) (hq:D[v.toNat]?=some q) (ha:a∈q) (h2:2≤q.length) :
    zI N x.size x.rels y.vars y.cons (S++[D]) C (Line.mk 1 v a 0)=some (true,(S++[D])++[D.set v.toNat [a]],C++[Literal.mk v a]):=by
  have hvs:=h.vars;have hl:=hD.len;have hle:=hD.le;have e1:q.any (· == a)=true:=List.any_eq_true.2 ⟨a,ha,by simp⟩
  have e2:decide ((q.length:Int)<2)=false:=by simp;omega
  rw[uD hv (by omega) hS,if_pos (by decide),dT hv.1 hq,bnd_s,nN,bnd_s,e1,Bool.not_true,if_neg (by simp),e2,thn_nx,if_neg (by simp),tA D (fun d hd=>by have:=fX hd;omega) (by omega),bnd_s,dT hv.1 hq,bnd_s,bM (by simp only[List.length_append,List.length_cons,List.length_nil];omega),bnd_s,bM (by simp only[List.length_cons,List.length_nil];omega),bnd_s]
theorem xEv (h:Ri x y) {N:Nat} (hN:100≤N) {S:List (List (List Int))} {D0 D:List (List Int)} {C:List Literal} {l:Literal} {i:Int} {q:List Int} (hS:S.length≤100000) (hC:C.length=S.length+1) (hD:DomOk y.vars.toNat 40 D0) (hi:0≤i∧i<y.vars) (hd:D[i.toNat]?=some []) (hl:0≤l.var) (hq:D0[l.var.toNat]?=some q) :
    zI N x.size x.rels y.vars y.cons ((S++[D0])++[D]) (C++[l]) (Line.mk 3 i 0 0)=some (true,S++[D0.set l.var.toNat (q.filter (· != l.value))],C):=by
  have hvs:=h.vars;have hle:=hD.le;have hqt:=fX (List.mem_of_getElem? hq)
  have hn:((S++[D0]).length:Int)=(C.length:Int):=by rw[hC];simp
  have hn2:((S++[D0]).length:Int) - 1=(S.length:Int):=by simp
  rw[uD hi (by omega) (by simp;omega),if_neg (by decide),if_neg (by decide),if_pos (by decide),dT hi.1 hd,bnd_s,if_neg (by simp),xFl,hn2,hn,xBy,bnd_s,bnd_s,xFl,bnd_s,if_pos (by simp;omega),zT (by omega) (by omega),bnd_s,xBy,bnd_s,dT hl hq,bnd_s,mB _ _ (by omega) (by omega),bnd_s,xCp]
theorem xIq (h:Ri x y) {N:Nat} {D:List (List Int)} {l:Literal} {i:Int} (hi:0≤i∧i<y.vars) (hd:D[i.toNat]?=some []) :
    zI N x.size x.rels y.vars y.cons [D] [l] (Line.mk 3 i 0 0)=some (true,[],[]):=by
  have hvs:=h.vars;have:=uD (x:=x) (y:=y) (N:=N) (S:=[]) (D:=D) (C:=[l]) (k:=3) (a:=0) (c:=0) hi (by omega) (by simp);rw[List.nil_append] at this;rw[this,if_neg (by decide),if_neg (by decide),if_pos (by decide),dT hi.1 hd,bnd_s,if_neg (by simp)]
  rfl
def xEr (N : Nat) (x : Template) (y : Instance) : Nat → Line → (List (List (List Int))) × (List Literal) → Option (Ctl ((List (List (List Int))) × (List Literal)) ((Int × (List Rel) × Int × (List Con) × (List (List (List Int))) × (List Literal)) × Int × Int)) := fun (k103 : Nat) (x105 : Line) (s : (List (List (List Int))) × (List Literal)) =>
      match s with
      | (s91,s94)=>
      xZ (zI N x.size x.rels y.vars y.cons s91 s94 (Line.mk x105.kind x105.var x105.value x105.con)) fun z118=>
      if (!z118.1) then
       some (.ret ((0,[],0,[],[],[]),(k103:Int),8))
      else
       some (.go (z118.2.1,z118.2.2))
theorem xBd {N k:Nat} {l:Line} {A A':List (List (List Int))} {C C':List Literal} (h:zI N x.size x.rels y.vars y.cons A C l=some (true,A',C')):xEr N x y k l (A,C)=some (.go (A',C')):=by
  have h':zI N x.size x.rels y.vars y.cons A C (Line.mk l.kind l.var l.value l.con)=some (true,A',C'):=h
  unfold xEr
  simp only[h',bnd_s,Bool.not_true,Bool.false_eq_true,if_false]
theorem xOb (h:Ri x y) {N:Nat} (hN:100≤N) {D D':List (List Int)} {seg:List Line} (hr:Rn x y D seg D'):∀ (S:List (List (List Int))) (C:List Literal) (rest:List Line) (k:Nat),C.length=S.length+1→S.length+seg.length≤100000→DomOk y.vars.toNat 40 D →
    qR (xEr N x y) (seg++rest) k (S++[D],C)=qR (xEr N x y) rest (k+seg.length) (S++[D'],C)∧DomOk y.vars.toNat 40 D':=by
  induction hr with
  | nil=>intro S C rest k _ _ hD;exact⟨by simp,hD⟩
  | @rem D D1 l s _ hs ih=>
    intro S C rest k hC hS hD;rw[List.length_append,List.length_singleton] at hS;obtain⟨h1,h2⟩:=ih S C ([Line.mk 2 s.var s.value s.con]++rest) k hC (by omega) hD
    have hvl:s.var.toNat<D1.length:=by have:=hs.1;have:=h2.len;omega
    have hget:D1[s.var.toNat]?=some (D1.getD s.var.toNat []):=by rw[List.getD_eq_getElem?_getD,List.getElem?_eq_getElem hvl];rfl
    refine⟨?_,h2.set hget ((h2.nd _ (List.mem_of_getElem? hget)).filter _) (List.length_filter_le _ _)⟩;rw[List.append_assoc,h1,List.singleton_append,aB (xBd (xKl h hN (by omega) h2 hs)),List.length_append,List.length_singleton]
    rfl
  | @pair D D1 D2 l s v a i q _ hv hq ha h2q _ hi hd ih1 ih2=>
    intro S C rest k hC hS hD;simp only[List.length_append,List.length_singleton] at hS;obtain⟨h1,h2⟩:=ih1 S C ([Line.mk 1 v a 0]++(s++([Line.mk 3 i 0 0]++rest))) k hC (by omega) hD;have hin:DomOk y.vars.toNat 40 (D1.set v.toNat [a]):=h2.set hq (by simp) (by simp;omega);obtain⟨h3,h4⟩:=ih2 (S++[D1]) (C++[Literal.mk v a]) ([Line.mk 3 i 0 0]++rest) (k+l.length+1) (by simp [hC]) (by simp;omega) hin;refine⟨?_,h2.set hq ((h2.nd _ (List.mem_of_getElem? hq)).filter _) (List.length_filter_le _ _)⟩
    have e:(l++([Line.mk 1 v a 0]++(s++[Line.mk 3 i 0 0])))++rest=l++([Line.mk 1 v a 0]++(s++([Line.mk 3 i 0 0]++rest))):=by simp only[List.append_assoc]
    rw[e,h1,List.singleton_append,aB (xBd (xCl h (by omega) (by omega) h2 hv hq ha h2q)),h3,List.singleton_append,aB (xBd (xEv h hN (l:=Literal.mk v a) (by omega) hC h2 hi hd hv.1 hq))]
    have e2:k+l.length+1+s.length+1=k+(l++([Line.mk 1 v a 0]++(s++[Line.mk 3 i 0 0]))).length:=by simp only[List.length_append,List.length_singleton];omega
    rw[e2]
theorem tF (h:Ri x y) {N:Nat} {L:List Line} (hL:L.length≤4000) {A:List (List (List Int))} {C:List Literal} (hr:qR (xEr N x y) L 0 ([cJ x y],[Literal.mk 0 0])=some (.nx (A,C))):gY N x y L=some ((x.size,x.rels,y.vars,y.cons,A,C),0,0):=by
  have hv:=h.vars;have d1:kS x y=some (cJ x y):=xAi h.tv hv;have hi:=h.inst.2
  unfold gY
  have e1:(Template.mk x.size x.rels)=x:=rfl;have e2:(Instance.mk y.vars y.cons)=y:=rfl
  unfold fV
  rw[e1,e2,hi,bnd_s,if_neg (by simp),if_neg (by simp;omega),d1,bnd_s,bnd_s]
  show zW (qR (xEr N x y) L 0 ([cJ x y],[Literal.mk 0 0])) _=_
  rw[hr,thn_nx]
theorem xJq (h:Ri x y) {N:Nat} (hN:100≤N) {seg:List Line} {i:Int} {d2:List (List Int)} (hr:Rn x y (cJ x y) seg d2) (hi:0≤i∧i<y.vars) (hd:d2[i.toNat]?=some []) (hL:(seg++[Line.mk 3 i 0 0]).length≤4000):zZ N x y (seg++[Line.mk 3 i 0 0])=some (((seg++[Line.mk 3 i 0 0]).length:Int),0):=by
  have hl:seg.length+1≤4000:=by simpa using hL
  obtain⟨h1,h2⟩:=xOb h hN hr [] [Literal.mk 0 0] [Line.mk 3 i 0 0] 0 rfl (by simp;omega) (yE h)
  have hrun:qR (xEr N x y) (seg++[Line.mk 3 i 0 0]) 0 ([cJ x y],[Literal.mk 0 0])=some (.nx ([],[])):=by
    rw[List.nil_append] at h1;rw[h1,List.nil_append,aB (xBd (xIq h hi hd))]
    rfl
  have h3:=tF h hL hrun
  unfold zZ
  rw[show(Template.mk x.size x.rels)=x from rfl,show(Instance.mk y.vars y.cons)=y from rfl,h3,bnd_s]
  rfl
theorem xHs (h:Ri x y) {N:Nat}:zZ N x y []=some (0,8):=by
  have h3:=tF h (N:=N) (L:=[]) (by simp) rfl
  unfold zZ
  rw[show(Template.mk x.size x.rels)=x from rfl,show(Instance.mk y.vars y.cons)=y from rfl,h3,bnd_s]
  rfl
end
end Go.Proofs.YtghihmkhdhjhiaaGreatDoor
namespace Go.Proofs.YtghihmkhdhjhiaaGreatDoor
set_option linter.unusedVariables false
set_option linter.unusedSimpArgs false
set_option maxRecDepth 100000
theorem xDl {vs args:List Int} {n:Nat} (h:∀ i∈args,0≤i∧i<(n:Int)):atV (vs.take n) args=atV vs args:=by
  unfold atV
  apply List.map_congr_left
  intro i hi;have:=h i hi;rw[List.getD_eq_getElem?_getD,List.getD_eq_getElem?_getD,List.getElem?_take,if_pos (by omega)]
theorem tJ {u:Template} {a:Atom} {vs ws:List Int} (h:atV vs a.args=atV ws a.args):sE u a vs=sE u a ws:=by unfold sE;rw[h]
theorem AV.rg {T:Nat} {u:Template} {n:Nat} {a:Atom} (hu:TV T u) (h:AV u n a):0≤mx a.args∧mx a.args<(n:Int)∧∀ i∈a.args,0≤i∧i≤mx a.args:=by
  have hl:=h.len hu
  have hn:(0:Int)<n:=by
    cases e:a.args with
    | nil=>rw[e] at hl;simp at hl
    | cons i r=>have:=h.1 i (by rw[e];simp);omega
  have:=xPk h.1 hn;exact⟨this.1,this.2,fun i hi=>⟨(h.1 i hi).1,(xFm (l:=a.args) (s:=0)).2 i hi⟩⟩
theorem xLl {T:Nat} {u:Template} {f:Formula} {Y:List Int} (hu:TV T u) (ha:∀ a∈f.atoms,AV u f.vars.toNat a) (hA:∀ a∈f.atoms,sE u a Y=true) {n:Nat} (h1:1≤n) (h2:n≤Y.length):lR u f (Y.take n)=true:=by
  unfold lR
  rw[List.all_eq_true];intro a hm;obtain⟨h3,h4,h5⟩:=(ha a hm).rg hu
  have hl:((Y.take n).length:Int)=n:=by rw[List.length_take];omega
  rw[hl]
  by_cases e:mx a.args=(n:Int) - 1
  · rw[decide_eq_true e,tJ (xDl (fun i hi=>by have:=h5 i hi;omega)),hA a hm]
    rfl
  · rw[decide_eq_false e]
    rfl
def rD (u:Template) (f:Formula):Nat→List Int→List (List Int)
  | 0,vs=>[vs]
  | d+1,vs=>(List.range' 0 u.size.toNat).flatMap fun(a:Nat)=>if lR u f (vs++[(a:Int)]) then rD u f d (vs++[(a:Int)]) else []
theorem xCv {u:Template} {f:Formula}:∀ (d:Nat) (vs ws:List Int),ws∈rD u f d vs→ws.length=vs.length+d∧ws.take vs.length=vs∧(∀ n,vs.length<n→n≤vs.length+d→lR u f (ws.take n)=true)∧∀ x∈ws.drop vs.length,0≤x∧x<(u.size.toNat:Int)
  | 0,vs,ws,h=>by
    obtain rfl:=List.mem_singleton.1 h;exact⟨rfl,List.take_of_length_le (Nat.le_refl _),fun n h1 h2=>by omega,fun x hx=>by rw[List.drop_of_length_le (Nat.le_refl _)] at hx;cases hx⟩
  | d+1,vs,ws,h=>by
    rw[rD,List.mem_flatMap] at h;obtain⟨a,ha,h⟩:=h;have ha':=(List.mem_range'_1.1 ha).2
    split at h
    · rename_i hs
      obtain⟨h1,h2,h3,h4⟩:=xCv d _ ws h
      have hl:(vs++[(a:Int)]).length=vs.length+1:=by simp
      rw[hl] at h1 h2 h3 h4
      have e2:ws.take vs.length=vs:=by
        have:=congrArg (List.take vs.length) h2;rw[List.take_take,Nat.min_eq_left (by omega),List.take_append_of_le_length (Nat.le_refl _),List.take_of_length_le (Nat.le_refl _)] at this;exact this
      refine⟨by omega,e2,fun n h5 h6=>?_,fun x hx=>?_⟩
      · by_cases e:n=vs.length+1
        · rw[e,h2];exact hs
        · exact h3 n (by omega) (by omega)
      · rw[List.drop_eq_getElem_cons (by omega)] at hx
        rcases List.mem_cons.1 hx with rfl | hx
        · have e3:ws[vs.length]?=some (a:Int):=by
            have:=congrArg (fun l=>l[vs.length]?) h2;simp only[List.getElem?_take,Nat.lt_succ_self,if_true] at this;rw[this]
            simp
          rw[List.getElem?_eq_getElem (by omega)] at e3;rw[Option.some.inj e3]
          omega
        · exact h4 x hx
    · cases h
theorem xAv {u:Template} {f:Formula} {Y:List Int} (hY:∀ n,1≤n→n≤Y.length→lR u f (Y.take n)=true) (hr:∀ x∈Y,0≤x∧x<(u.size.toNat:Int)):∀ (d k:Nat),k+d=Y.length→Y∈rD u f d (Y.take k)
  | 0,k,h=>by rw[rD,List.take_of_length_le (by omega)];simp
  | d+1,k,hk=>by
    have hlt:k<Y.length:=by omega
    have e:Y.take k++[Y[k]]=Y.take (k+1):=by rw[List.take_add_one,List.getElem?_eq_getElem hlt];rfl
    have hx:=hr _ (List.getElem_mem hlt);rw[rD,List.mem_flatMap];refine⟨Y[k].toNat,List.mem_range'_1.2 ⟨by omega,by omega⟩,?_⟩;rw[Int.toNat_of_nonneg hx.1,e,if_pos (hY (k+1) (by omega) (by omega))];exact xAv hY hr d (k+1) (by omega)
section
variable {x:Template} {y:Instance}
theorem Ri.cw (h:Ri x y):∀ c∈y.cons,CW x y.vars c:=fun c hc=>xPj h.tv (h.cv c hc)
def xIl (x:Template) (y:Instance):List (List Int):=rD x (fY 1 y) y.vars.toNat []
theorem xMe (h:Ri x y) {o:List Int} (ho:o∈xIl x y):Sol x y o:=by
  obtain⟨h1,h2,h3,h4⟩:=xCv _ _ _ ho;have hs:=h.size;rw[List.length_nil,Nat.zero_add] at h1 h3;rw[List.length_nil,List.drop_zero] at h4;refine⟨by omega,fun a ha=>by have:=h4 a ha;omega,fun c hc=>?_⟩;have hw:=h.cw c hc;have hA:AV x y.vars.toNat ⟨c.rel,c.scope⟩:=⟨fun i hi=>by have:=hw.1.1 i hi;show 0≤i∧i<(y.vars.toNat:Int);omega,.inr hw.1.2⟩;obtain⟨k3,k4,k5⟩:=hA.rg h.tv;rw[← xBc hw];have hs:=h3 ((mx c.scope).toNat+1) (by simp) (by have:mx c.scope<(y.vars.toNat:Int):=k4;omega)
  unfold lR at hs
  have hs2:=List.all_eq_true.1 hs ⟨c.rel,c.scope⟩ (List.mem_map.2 ⟨c,hc,rfl⟩);have k3':0≤mx c.scope:=k3;have k4':mx c.scope<(y.vars.toNat:Int):=k4
  have hl2:((o.take ((mx c.scope).toNat+1)).length:Int) - 1=mx c.scope:=by rw[List.length_take];omega
  rw[hl2,decide_eq_true (show mx (Atom.mk c.rel c.scope).args=mx c.scope from rfl),Bool.not_true,Bool.false_or,tJ (xDl (fun i hi=>by have:=k5 i hi;have k6:mx (Atom.mk c.rel c.scope).args=mx c.scope:=rfl;omega))] at hs2;exact hs2
theorem xMl (h:Ri x y) {vs:List Int} (hS:Sol x y vs):vs∈xIl x y:=by
  have hl:=hS.1
  have:=xAv (u:=x) (f:=fY 1 y) (Y:=vs) (fun n h1 h2=>xLl h.tv (fun a ha=>by
    obtain⟨c,hc,rfl⟩:=List.mem_map.1 ha;have hw:=h.cw c hc
    exact⟨fun i hi=>by have:=hw.1.1 i hi;show 0≤i∧i<(y.vars.toNat:Int);omega,.inr hw.1.2⟩) (fun a ha=>by
    obtain⟨c,hc,rfl⟩:=List.mem_map.1 ha;rw[xBc (h.cw c hc)]
    exact hS.2.2 c hc) h1 h2) (fun z hz=>by have:=hS.2.1 z hz;omega) vs.length 0 (by omega)
  rw[hl] at this;exact this
end
theorem yX (L M:List (List Int)) (K:Nat):(L.take K++M).take K=(L++M).take K:=by
  rw[List.take_append,List.take_append,List.take_take,Nat.min_self,List.length_take]
  by_cases h:L.length≤K
  · rw[Nat.min_eq_right h]
  · rw[Nat.min_eq_left (by omega),Nat.sub_self,show K - L.length=0 by omega]
theorem xEf {T:Nat} {u:Template} {y:Instance} (hu:TV T u) (h:∀ c∈y.cons,CW u y.vars c) (hv:0≤y.vars∧y.vars≤10) (K:Nat) (hK:1≤K∧K≤1000):∀ (d N:Nat) (vs:List Int) (L:List (List Int)),(vs.length:Int)+d=y.vars→d+1≤N→L.length<K→zX N u y (K:Int) L (L.length:Int) vs=some ((L++rD u (fY 1 y) d vs).take K,(((L++rD u (fY 1 y) d vs).take K).length:Int))
  | 0,N,vs,L,hd,hN,hL=>by
    obtain⟨M,rfl⟩:∃ M,N=M+1:=⟨N - 1,by omega⟩;rw[zX,if_pos (by simp;omega),zT (by omega) (by omega),bnd_s,if_pos (by simpa using hL),own_eq _ (by omega),bnd_s,bM (by simp only[List.length_cons,List.length_nil];omega),bnd_s,thn_nx,rD,List.take_of_length_le (by simp;omega)]
    simp
  | d+1,N,vs,L,hd,hN,hL=>by
    obtain⟨M,rfl⟩:∃ M,N=M+1:=⟨N - 1,by omega⟩;have ih:=xEf hu h hv K hK d M;rw[zX,if_neg (by simp;omega)]
    have hl:∀ a:Nat,(vs++[(a:Int)]).length=vs.length+1:=fun a=>by simp
    have key:∀ (m k:Nat) (L:List (List Int)) (b:Nat→(List (List Int))×Int→Option (Ctl ((List (List Int))×Int) ((List (List Int))×Int))),L.length≤K →
        (∀ (a:Nat) (L:List (List Int)),L.length=K→b a (L,(L.length:Int))=some (.ret (L,(L.length:Int)))) →
        (∀ (a:Nat) (L:List (List Int)),L.length<K→b a (L,(L.length:Int))=some (.go ((L++if lR u (fY 1 y) (vs++[(a:Int)]) then rD u (fY 1 y) d (vs++[(a:Int)]) else []).take K,(((L++if lR u (fY 1 y) (vs++[(a:Int)]) then rD u (fY 1 y) d (vs++[(a:Int)]) else []).take K).length:Int)))) →
        zW (dQ b m k (L,(L.length:Int))) (fun s=>some s)=some ((L++(List.range' k m).flatMap fun(a:Nat)=>if lR u (fY 1 y) (vs++[(a:Int)]) then rD u (fY 1 y) d (vs++[(a:Int)]) else []).take K,(((L++(List.range' k m).flatMap fun(a:Nat)=>if lR u (fY 1 y) (vs++[(a:Int)]) then rD u (fY 1 y) d (vs++[(a:Int)]) else []).take K).length:Int)):=by
      intro m
      induction m with
      | zero=>intro k L b hLK _ _;simp only[List.range'_zero,List.flatMap_nil,List.append_nil];rw[List.take_of_length_le hLK];rfl
      | succ m ihm=>
        intro k L b hLK hb1 hb2;rw[List.range'_succ,List.flatMap_cons]
        by_cases he:L.length=K
        · rw[xGh (hb1 k L he)]
          rw[List.take_append,List.take_of_length_le (by omega),show K - L.length=0 by omega,List.take_zero,List.append_nil]
          rfl
        · rw[nZ (hb2 k L (by omega)),ihm (k+1) _ b (by rw[List.length_take];omega) hb1 hb2,yX,List.append_assoc]
    rw[rD];refine key u.size.toNat 0 L _ (by omega) (fun a L hL=>?_) (fun a L hL=>?_)
    · simp only
      rw[if_pos (by simp;omega),thn_nx,hL]
      simp
    · simp only
      have hne:((L.length:Int)==(K:Int))=false:=by simp;omega
      rw[if_pos (by simp;omega),thn_nx,hne,if_neg (by simp),own_eq _ (by omega),bnd_s,bM (by simp only[List.length_cons,List.length_nil];omega),bnd_s,xIz 1 hu h (by rw[hl];omega),bnd_s]
      by_cases hsu:lR u (fY 1 y) (vs++[(a:Int)])=true
      · rw[if_pos hsu,if_pos hsu,ih _ L (by rw[hl];push_cast;omega) (by omega) hL,bnd_s]
      · rw[if_neg hsu,if_neg hsu,List.append_nil,List.take_of_length_le (by omega)]
theorem xEp {x:Template} {y:Instance} (h:Ri x y) {N:Nat} (hN:5100≤N):∃ o c,cB N x y=some (o,c)∧((c=0∧∃ vs,Sol x y vs)∨(c=6∧∀ vs,¬ Sol x y vs)):=by
  have hv:=h.vars
  unfold cB eJ
  have hf:=xEf h.tv h.cw (by omega) 1 (by omega) y.vars.toNat N [] [] (by simp only[List.length_nil];omega) (by omega) (by simp);rw[show(Template.mk x.size x.rels)=x from rfl,show(Instance.mk y.vars y.cons)=y from rfl,h.inst.1,bnd_s,if_neg (by simp)];have hf2:zX N x y 1 [] 0 []=some ((xIl x y).take 1,(((xIl x y).take 1).length:Int)):=hf;rw[hf2,bnd_s,bnd_s]
  cases hl:xIl x y with
  | nil=>exact⟨_,_,rfl,.inr ⟨rfl,fun vs hS=>by have:=xMl h hS;rw[hl] at this;cases this⟩⟩
  | cons o l=>exact⟨o,0,rfl,.inl ⟨rfl,o,xMe h (by rw[hl];simp)⟩⟩
theorem xId {x:Template} {y:Instance} (h:Ri x y) {N:Nat} (hN:5100≤N) {vs:List Int} (hl:vs.length=y.vars.toNat) {c:Con} (hc:c∈y.cons):cF N c x vs=some (!sB x vs c):=by
  have hu:=h.tv;obtain⟨⟨hsc,r,r0,r1,r2,r3⟩,hlen⟩:=h.cw c hc;have e2:=xHj (vs:=vs) (args:=c.scope) (fun i hi=>by have:=hsc i hi;omega) (by omega);obtain⟨m,_,_,_,hasc,_⟩:=hu.r r r2
  have hg:x.rels.getD c.rel.toNat default=r:=by rw[List.getD_eq_getElem?_getD,r1];rfl
  unfold cF sB
  rw[dT r0 r1,bnd_s,e2,bnd_s,hg];have:=xOn (N:=N) (r:=r) (t:=atV vs c.scope) hasc (by have:=(hu.r r r2).len hu.t;omega) (by omega);rw[this,bnd_s]
theorem xPq {x:Template} {y:Instance} (h:Ri x y) {N:Nat} (hN:5100≤N) {vs:List Int} (hS:Sol x y vs):dZ N x y vs=some (true,0):=by
  have hl:=hS.1;have hv:=h.vars;have hs:=h.size;have i2:=h.inst.2
  have a1:zO x.size vs y.vars=some true:=by
    rw[tI (by omega)]
    unfold pS
    rw[show((vs.length:Int)==y.vars)=true by simp;omega,Bool.true_and]
    congr 1
    rw[List.all_eq_true];intro a ha;have:=hS.2.1 a ha
    unfold okV
    simp
    omega
  obtain⟨j,k1,k2⟩:=lX y.cons (fun c=>!sB x vs c) (fun c=>cF N c x vs) (fun c hc=>xId h hN hl hc)
  have hj:j<0:=by
    have:y.cons.any (fun c=>!sB x vs c)=false:=by
      rw[List.any_eq_false];intro c hc;rw[hS.2.2 c hc]
      simp
    rw[this] at k2
    simpa using k2
  have k1':zU y.cons (fun a0=>cF N a0 x vs)=some j:=k1
  unfold dZ eK jB
  rw[show(Template.mk x.size x.rels)=x from rfl,show(Instance.mk y.vars y.cons)=y from rfl,i2,bnd_s,if_neg (by simp),a1,bnd_s,if_neg (by simp),k1',bnd_s,bnd_s,bnd_s];simp only[show((0:Int)==0)=true from rfl,if_true,thn_nx,decide_eq_true hj]
end Go.Proofs.YtghihmkhdhjhiaaGreatDoor
namespace Go.Proofs.YtghihmkhdhjhiaaGreatDoor
set_option linter.unusedVariables false
set_option linter.unusedSimpArgs false
section
variable {x:Template} {y:Instance}
theorem xMj (h:Ri x y) {N:Nat} (hN:5100≤N) :
    ∃ st ln vl cd d d',aK N x y (cJ x y) 2000=some ((x.size,x.rels,y.vars,y.cons,2000,st,ln,vl,cd),d)∧gB N x y (cJ x y) 2000=some ((x,y,2000,st,ln,vl,false),cd,d')∧(1≤st∧st≤2000)∧((cd=0∧Sol x y vl)∨(cd=6∧vl=[]∧(∀ vs,¬ Sol x y vs)∧ln.length≤4000∧∃ seg i d2,Rn x y (cJ x y) seg d2∧(0≤i∧i<y.vars)∧d2[i.toNat]?=some []∧ln=seg++[Line.mk 3 i 0 0]))∧vl.length≤10 ∧
      ∀ b:Int,0≤b→(st≤b→aK N x y (cJ x y) b=some ((x.size,x.rels,y.vars,y.cons,b,st,ln,vl,cd),d))∧(b<st→∃ q,aK N x y (cJ x y) b=some q∧q.1.2.2.2.2.2.2.2.2=7):=by
  have hv:=h.vars;have hs:=h.size;have hp:=xHh h;obtain⟨⟨rb,st,ln,vl,cd,d⟩,⟨rb',st',ln',vl',ov,d'⟩,h1,h2,E1,E2,E3,E4,E5,E6,E7,E8,E8f,E9,E10,E11,E12,El,E13⟩:=xHi (bud:=2000) h.tv (by omega) rfl (by omega) h.cv h.cok (by omega) 2000 N 0 [] (cJ x y) (by omega) (by omega) (by omega) (by simp) (yE h) (xDp (by omega)) (by omega) (by omega);simp only at E1 E2 E3 E4 E5 E6 E7 E8 E8f E9 E10 E11 E12 El E13;obtain⟨rfl,rfl⟩:=E5;subst E1 E2 E3 E4;have hb:∀ b:Int,0≤b→(st'≤b→vM N x.size x.rels y.vars y.cons b 0 [] [] 0 (cJ x y)=some (rb,st',ln',vl',0,d))∧(b<st'→∃ r':LvR,vM N x.size x.rels y.vars y.cons b 0 [] [] 0 (cJ x y)=some r'∧r'.1=false∧r'.2.2.2.2.1=7):=fun b hb0=>((xHd (b:=b) N 0 [] [] (cJ x y) _ h1).2 rfl).2 hb0;have h1':=h1
  unfold aK gB
  rw[h1,h2,bnd_s,bnd_s];simp only
  cases rb with
  | true=>
    have hs:=E8f rfl;obtain⟨sg,i,d2,b1,b2,b3,b4⟩:=E13 rfl;have hl:=El rfl;rw[List.length_nil] at hl;refine⟨st',ln',vl',6,d,d',rfl,rfl,by omega,.inr ⟨rfl,E6 rfl,fun vs hS=>E11 rfl vs hS (xHe h hS),by omega,sg,i,d2,b1,b2,b3,by simpa using b4⟩,by omega,fun b hb0=>⟨fun hs=>by rw[(hb b hb0).1 hs];rfl,fun hs=>?_⟩⟩;obtain⟨r',k1,k2,k3⟩:=(hb b hb0).2 hs;exact⟨_,by rw[k1,bnd_s,if_neg (by rw[k2];simp)],k3⟩
  | false=>
    have hs:=E8 rfl;refine⟨st',ln',vl',0,d,d',rfl,rfl,by omega,.inl ⟨rfl,(E12 rfl).1⟩,by omega,fun b hb0=>⟨fun hs=>by rw[(hb b hb0).1 hs];rfl,fun hs=>?_⟩⟩;obtain⟨r',k1,k2,k3⟩:=(hb b hb0).2 hs;exact⟨_,by rw[k1,bnd_s,if_neg (by rw[k2];simp)],k3⟩
theorem Ri.bud (h:Ri x y) {b:Int} (hb:0≤b∧b≤5000):aG x y b=some 0∧bC x y b=some 0:=by
  obtain⟨h1,h2⟩:=h.inst
  have e:(decide (0≤b) && decide (b≤5000))=true:=by simp;omega
  unfold aG bC
  rw[show(Template.mk x.size x.rels)=x from rfl,show(Instance.mk y.vars y.cons)=y from rfl,h1,h2,bnd_s,bnd_s,cN,jJ,e];exact⟨rfl,rfl⟩
structure Srch (N:Nat) (x:Template) (y:Instance) (vl:List Int) (st cd:Int) (L:List Line) (rc:Int):Prop where
  i:zV N x y 2000=some (vl,st,cd)
  s:dL N x y 2000=some (vl,st,cd)
  ri:aO N x y 2000=some (L,rc)
  rs:aR N x y 2000=some (L,rc)
  st1:1≤st∧st≤2000
  vn:vl.length≤10
  less:∃ r,zV N x y (st - 1)=some r∧r.2.2=7
  same:zV N x y st=some (vl,st,cd)
  end_:(cd=0∧rc=6∧L=[]∧Sol x y vl)∨(cd=6∧rc=0∧(∀ vs,¬ Sol x y vs)∧L.length≤4000∧∃ seg i d2,Rn x y (cJ x y) seg d2∧(0≤i∧i<y.vars)∧d2[i.toNat]?=some []∧L=seg++[Line.mk 3 i 0 0])
theorem xFf (h:Ri x y) {N:Nat} (hN:5100≤N):∃ vl st cd L rc,Srch N x y vl st cd L rc:=by
  have hv:=h.vars;obtain⟨b1,b2⟩:=h.budget;have d1:kS x y=some (cJ x y):=xAi h.tv hv;have d2:dX x y=some (cJ x y):=xGw h.tv hv;obtain⟨st,ln,vl,cd,d,d',e1,e2,e3,e4,e5,e6⟩:=xMj h hN;have ex:(Template.mk x.size x.rels)=x:=rfl;have ey:(Instance.mk y.vars y.cons)=y:=rfl
  have hfor:∀ b:Int,0≤b∧b≤2000→zV N x y b=xZ (aK N x y (cJ x y) b) fun z28=>if (z28.1.2.2.2.2.2.2.2.2==7) then some ([],0,7) else some (z28.1.2.2.2.2.2.2.2.1,z28.1.2.2.2.2.2.1,z28.1.2.2.2.2.2.2.2.2):=fun b hb=>by
    unfold zV
    rw[ex,ey,(h.bud (b:=b) (by omega)).1,bnd_s,if_neg (by simp),d1,bnd_s]
  have hcd:(cd==7)=false:=by rcases e4 with ⟨rfl,_⟩ | ⟨rfl,_⟩<;>rfl
  have f1:zV N x y 2000=some (vl,st,cd):=by
    rw[hfor 2000 (by omega),e1,bnd_s];simp only[hcd,Bool.false_eq_true,if_false]
  have f2:zV N x y st=some (vl,st,cd):=by
    rw[hfor st (by omega),((e6 st (by omega)).1 (Int.le_refl _)),bnd_s];simp only[hcd,Bool.false_eq_true,if_false]
  have f3:∃ r,zV N x y (st - 1)=some r∧r.2.2=7:=by
    obtain⟨q,q1,q2⟩:=(e6 (st - 1) (by omega)).2 (by omega);rw[hfor (st - 1) (by omega),q1,bnd_s,if_pos (by rw[q2];rfl)];exact⟨_,rfl,rfl⟩
  have f4:∀ k:((Int×(List Rel)×Int×(List Con)×Int×Int×(List Line)×(List Int)×Int)×(List (List Int)))→Option ((List Line)×Int),xZ (aK N x y (cJ x y) 2000) k=k ((x.size,x.rels,y.vars,y.cons,2000,st,ln,vl,cd),d):=fun k=>by rw[e1,bnd_s]
  rcases e4 with ⟨rfl,hS⟩ | ⟨rfl,rfl,hno,hl,hseg⟩
  · refine⟨vl,st,0,[],6,f1,?_,?_,?_,e3,e5,f3,f2,.inl ⟨rfl,rfl,rfl,hS⟩⟩
    · unfold dL
      rw[ex,ey,b2,bnd_s,if_neg (by simp),d2,bnd_s,e2,bnd_s]
      rfl
    · unfold aO
      rw[ex,ey,b1,bnd_s,if_neg (by simp),d1,bnd_s,f4]
      rfl
    · unfold aR eU
      rw[ex,ey,b2,bnd_s,if_neg (by simp),d2,bnd_s,e2,bnd_s]
      rfl
  · refine⟨[],st,6,ln,0,f1,?_,?_,?_,e3,e5,f3,f2,.inr ⟨rfl,rfl,hno,hl,hseg⟩⟩
    · unfold dL
      rw[ex,ey,b2,bnd_s,if_neg (by simp),d2,bnd_s,e2,bnd_s]
      rfl
    · unfold aO
      rw[ex,ey,b1,bnd_s,if_neg (by simp),d1,bnd_s,f4]
      have:decide (4000<(ln.length:Int))=false:=by simp;omega
      simp only[this]
      rfl
    · unfold aR eU
      rw[ex,ey,b2,bnd_s,if_neg (by simp),d2,bnd_s,e2,bnd_s]
      have:decide (4000<(ln.length:Int))=false:=by simp;omega
      simp only[this]
      rfl
end
end Go.Proofs.YtghihmkhdhjhiaaGreatDoor
