import Derived.Test.YtfmnjkpddljdcaaGreatDoorM72
namespace Go.Proofs.YtfmnjkpddljdcaaGreatDoor
set_option linter.unusedVariables false
set_option linter.unusedSimpArgs false
theorem xTy (vs sc:List Int):(atV vs sc).length=sc.length:=by unfold atV;exact List.length_map _
theorem xGz {vs sc:List Int} {k:Nat} {v:Int} (h:sc[k]?=some v):(atV vs sc).getD k 0=vs.getD v.toNat 0:=by unfold atV;rw[List.getD_eq_getElem?_getD,List.getElem?_map,h];rfl
theorem xTn (vs sc:List Int):agB sc (atV vs sc)=true:=by
  unfold agB
  rw[Bool.not_eq_true',List.any_eq_false];intro k hk;rw[Bool.not_eq_true,List.any_eq_false];intro q hq;rw[List.mem_range'_1] at hk hq
  unfold agP
  have hkl:sc[k]?=some (sc.getD k 0):=by rw[List.getD_eq_getElem?_getD,List.getElem?_eq_getElem (by omega)];rfl
  have hql:sc[q]?=some (sc.getD q 0):=by rw[List.getD_eq_getElem?_getD,List.getElem?_eq_getElem (by omega)];rfl
  rw[xGz hkl,xGz hql];intro h;simp only[Bool.and_eq_true,beq_iff_eq,bne_iff_ne,ne_eq] at h;exact h.2 (by rw[h.1])
theorem xTj {sc t:List Int} (h:agB sc t=true) {j k:Nat} (hjk:j<k) (hk:k<sc.length) (e:sc.getD k 0=sc.getD j 0):t.getD k 0=t.getD j 0:=by
  unfold agB at h
  rw[Bool.not_eq_true',List.any_eq_false] at h;have h1:=h k (by rw[List.mem_range'_1];omega);rw[Bool.not_eq_true,List.any_eq_false] at h1;have h2:=h1 j (by rw[List.mem_range'_1];omega)
  unfold agP at h2
  simp only[Bool.and_eq_true,beq_iff_eq,bne_iff_ne,ne_eq,not_and,Decidable.not_not] at h2;exact h2 e
theorem xVc {sc t:List Int} (h:agB sc t=true) {j k:Nat} (hj:j<sc.length) (hk:k<sc.length) (e:sc.getD k 0=sc.getD j 0):t.getD k 0=t.getD j 0:=by
  rcases Nat.lt_trichotomy j k with h1 | h1 | h1
  · exact xTj h h1 hk e
  · rw[h1]
  · exact(xTj h h1 hj e.symm).symm
theorem xHd (dom:List (List Int)) (vs:List Int):∀ sc:List Int,(∀ v∈sc,vs.getD v.toNat 0∈dom.getD v.toNat [])→sB dom sc (atV vs sc)=true
  | [],_=>rfl
  | v::sc,h=>by
    have ih:=xHd dom vs sc (fun w hw=>h w (by simp [hw]))
    show((dom.getD v.toNat []).any (· == vs.getD v.toNat 0) && sB dom sc (atV vs sc))=true
    rw[ih,Bool.and_true,List.any_eq_true];exact⟨_,h v (by simp),by simp⟩
theorem xIn (dom:List (List Int)):∀ (sc t:List Int),sB dom sc t=true→∀ (k:Nat) (v a:Int),sc[k]?=some v→t[k]?=some a→a∈dom.getD v.toNat []
  | [],_,_,k,v,a,h1,_=>by simp at h1
  | w::sc,[],_,k,v,a,_,h2=>by simp at h2
  | w::sc,b::t,h,k,v,a,h1,h2=>by
    unfold sB at h
    rw[Bool.and_eq_true] at h
    cases k with
    | zero=>
      simp at h1 h2
      subst h1 h2;obtain⟨z,hz,e⟩:=List.any_eq_true.1 h.1;rw[beq_iff_eq] at e;exact e ▸ hz
    | succ k=>exact xIn dom sc t h.2 k v a (by simpa using h1) (by simpa using h2)
def Sol (t:Template) (y:Instance) (vs:List Int):Prop:=vs.length=y.vars.toNat∧(∀ v∈vs,0≤v∧v<t.size)∧∀ c∈y.cons,xId t vs c=true
def Fit (dom:List (List Int)) (vs:List Int):Prop:=∀ i,i<dom.length→vs.getD i 0∈dom.getD i []
structure Kp (t:Template) (y:Instance) (D0 d:List (List Int)):Prop where
  len:d.length=D0.length
  sub:∀ i a,a∈d.getD i []→a∈D0.getD i []
  sol:∀ vs,Sol t y vs→Fit D0 vs→Fit d vs
theorem Kp.refl (t:Template) (y:Instance) (D:List (List Int)):Kp t y D D:=⟨rfl,fun _ _ h=>h,fun _ _ h=>h⟩
theorem xSl {t:Template} {y:Instance} {c:Con} {vs:List Int} {dom:List (List Int)} {p:Nat} {v:Int} (hC:CV t y.vars c) (hcm:c∈y.cons) (hS:Sol t y vs) (hl:dom.length=y.vars.toNat) (hd:Fit dom vs) (hp:c.scope[p]?=some v):rM t c dom p (vs.getD v.toNat 0)=true:=by
  obtain⟨hsc,r,r0,r1,r2,r3⟩:=hC
  unfold rM
  rw[dX r0 r1,Option.getD_some,List.any_eq_true];have h:=hS.2.2 c hcm
  unfold xId at h
  rw[decide_eq_true_iff,List.getD_eq_getElem?_getD,r1] at h;refine⟨_,h,?_⟩
  unfold yM
  rw[xGz hp,xTn,xHd dom vs c.scope (fun w hw=>hd _ (by have:=hsc w hw;omega))]
  simp
theorem Kp.stay {t:Template} {y:Instance} {D0:List (List Int)} {c:Con} (hl:D0.length=y.vars.toNat) (hC:CV t y.vars c) (hcm:c∈y.cons) (p:Nat) (v:Int) (hp:c.scope[p]?=some v):∀ dom a,Kp t y D0 dom→rM t c dom p a=false→Kp t y D0 (dom.set v.toNat ((dom.getD v.toNat []).filter (· != a))):=fun dom a h hb=>by
  have hdl:dom.length=y.vars.toNat:=by rw[h.len,hl]
  refine⟨by rw[List.length_set];exact h.len,fun i b hi=>h.sub i b ?_,fun vs hS hF w hw=>?_⟩
  · by_cases hv:i=v.toNat
    · subst hv
      by_cases hlt:v.toNat<dom.length
      · rw[List.getD_eq_getElem?_getD,List.getElem?_set_self hlt,Option.getD_some] at hi
        exact(List.mem_filter.1 hi).1
      · rw[List.getD_eq_getElem?_getD,List.getElem?_eq_none (by rw[List.length_set];omega)] at hi
        cases hi
    · rw[List.getD_eq_getElem?_getD,List.getElem?_set_ne (fun e=>hv e.symm)] at hi
      rw[List.getD_eq_getElem?_getD];exact hi
  · rw[List.length_set] at hw
    have hfit:=h.sol vs hS hF;have h1:=hfit w hw
    by_cases hv:w=v.toNat
    · subst hv
      rw[List.getD_eq_getElem?_getD (l:=dom.set _ _),List.getElem?_set_self hw,Option.getD_some,List.mem_filter];refine⟨h1,?_⟩;rw[bne_iff_ne];intro e;have:=xSl hC hcm hS hdl hfit hp;rw[e,hb] at this
      cases this
    · rw[List.getD_eq_getElem?_getD (l:=dom.set _ _),List.getElem?_set_ne (fun e=>hv e.symm)]
      rw[List.getD_eq_getElem?_getD (l:=dom)] at h1;exact h1
def prd:List (List Int)→Nat
  | []=>1
  | d::D=>d.length*prd D
theorem xCo:∀ (D:List (List Int)) (i:Nat) (d w:List Int),D[i]?=some d→prd (D.set i w)*d.length=prd D*w.length
  | [],i,d,w,h=>by simp at h
  | x::D,0,d,w,h=>by
    simp at h
    subst h
    show w.length*prd D*x.length=x.length*prd D*w.length
    rw[Nat.mul_right_comm,Nat.mul_comm w.length,Nat.mul_right_comm]
  | x::D,i+1,d,w,h=>by
    have:=xCo D i d w (by simpa using h)
    show x.length*prd (D.set i w)*d.length=x.length*prd D*w.length
    rw[Nat.mul_assoc,this,Nat.mul_assoc]
theorem xOi:∀ (D E:List (List Int)),D.length=E.length→(∀ i,(D.getD i []).length≤(E.getD i []).length)→prd D≤prd E
  | [],[],_,_=>Nat.le_refl _
  | [],_::_,h,_=>by simp at h
  | _::_,[],h,_=>by simp at h
  | x::D,z::E,h,hl=>Nat.mul_le_mul (by simpa using hl 0) (xOi D E (by simpa using h) (fun i=>by simpa using hl (i+1)))
theorem xCi:∀ {D:List (List Int)},pL D→1≤prd D
  | [],_=>Nat.le_refl _
  | x::D,h=>by
    have h1:x≠[]:=h x (by simp)
    have h2:1≤x.length:=by
      cases x with
      | nil=>exact absurd rfl h1
      | cons _ _=>simp
    have h3:=xCi (D:=D) (fun d hd=>h d (by simp [hd]));exact Nat.mul_le_mul h2 h3
theorem xLo:∀ {D:List (List Int)},prd D=1→∀ d∈D,d.length=1
  | [],_,d,hd=>by cases hd
  | x::D,h,d,hd=>by
    have hh:x.length*prd D=1:=h;have h1:x.length=1:=Nat.eq_one_of_mul_eq_one_right hh;have h2:prd D=1:=Nat.eq_one_of_mul_eq_one_left hh
    rcases List.mem_cons.1 hd with rfl | hd
    · exact h1
    · exact xLo h2 d hd
theorem xSq (m:Nat) (d:List Int):prd (List.replicate m d)=d.length ^ m:=by
  induction m with
  | zero=>rfl
  | succ m ih=>rw[List.replicate_succ];show d.length*prd _=_;rw[ih,Nat.pow_succ,Nat.mul_comm]
theorem xNj {D:List (List Int)} {i:Nat} {d:List Int} {a:Int} (h:D[i]?=some d) (hn:d.Nodup) (ha:a∈d) (h2:2≤d.length) (hF:pL D) :
    prd (D.set i [a])+prd (D.set i (d.filter (· != a)))=prd D∧1≤prd (D.set i [a])∧prd (D.set i [a])≤prd (D.set i (d.filter (· != a))):=by
  have e1:=xCo D i d [a] h;have e2:=xCo D i d (d.filter (· != a)) h
  have hlen:(d.filter (· != a)).length+1=d.length:=by
    have h3:d.filter (· != a)=d.erase a:=(hn.erase_eq_filter a).symm;rw[h3,List.length_erase_of_mem ha]
    omega
  have hp:=xCi hF;obtain⟨q,hq⟩:∃ q,q=prd (D.set i [a]):=⟨_,rfl⟩;obtain⟨s,hs⟩:∃ s,s=prd (D.set i (d.filter (· != a))):=⟨_,rfl⟩;obtain⟨p,hpp⟩:∃ p,p=prd D:=⟨_,rfl⟩;obtain⟨m,hm⟩:∃ m,m=(d.filter (· != a)).length:=⟨_,rfl⟩;rw[← hq,← hpp,List.length_singleton,Nat.mul_one] at e1;rw[← hs,← hpp,← hm] at e2;rw[← hm] at hlen;rw[← hq,← hs,← hpp];rw[← hpp] at hp;rw[← e1,← hlen] at e2
  have e3:s=q*m:=by
    have:s*(m+1)=q*m*(m+1):=by rw[e2,Nat.mul_right_comm]
    exact Nat.eq_of_mul_eq_mul_right (by omega) this
  have hm1:1≤m:=by omega
  have hq1:1≤q:=by
    rcases Nat.eq_zero_or_pos q with h0 | h0
    · rw[h0,Nat.zero_mul] at e1;omega
    · exact h0
  refine⟨by rw[e3,← e1,← hlen,Nat.mul_add,Nat.mul_one,Nat.add_comm],hq1,?_⟩;rw[e3];exact Nat.le_mul_of_pos_right q hm1
def hdD (D:List (List Int)):List Int:=D.map (fun d=>d.getD 0 0)
theorem xGi (D:List (List Int)) (i:Nat):(hdD D).getD i 0=(D.getD i []).getD 0 0:=by
  unfold hdD
  rw[List.getD_eq_getElem?_getD,List.getElem?_map,List.getD_eq_getElem?_getD (l:=D)]
  cases D[i]?<;>rfl
theorem sF {d:List Int} (h:d≠[]):d.getD 0 0∈d:=by
  cases d with
  | nil=>exact absurd rfl h
  | cons a d=>simp
theorem uD {D:List (List Int)} (h:pL D) {i:Nat} (hi:i<D.length):D.getD i []≠[]:=by
  rw[List.getD_eq_getElem?_getD,List.getElem?_eq_getElem hi];exact h _ (List.getElem_mem hi)
theorem xSb {d:List Int} (h:d.length=1) {a:Int} (ha:a∈d):a=d.getD 0 0:=by
  match d,h with
  | [b],_=>simpa using ha
theorem xMe {T:Nat} {t:Template} {y:Instance} {D:List (List Int)} {i:Nat} {a:Int} (hu:TV T t) (hC:∀ c∈y.cons,CV t y.vars c) (hl:D.length=y.vars.toNat) (hr:∀ j b,b∈D.getD j []→0≤b∧b<t.size) (hF:pL D) (hS:xCs t y y.cons.length D)
    (hi:i<D.length) (h1:∀ j,j<D.length→j≠i→(D.getD j []).length=1) (ha:a∈D.getD i []):Sol t y (hdD (D.set i [a])):=by
  have hg:∀ j,j<D.length→j≠i→∀ b∈D.getD j [],b=(hdD (D.set i [a])).getD j 0:=fun j hj hne b hb=>by
    rw[xGi,List.getD_eq_getElem?_getD (l:=D.set i [a]),List.getElem?_set_ne (fun e=>hne e.symm),← List.getD_eq_getElem?_getD];exact xSb (h1 j hj hne) hb
  have hgi:(hdD (D.set i [a])).getD i 0=a:=by
    rw[xGi,List.getD_eq_getElem?_getD (l:=D.set i [a]),List.getElem?_set_self hi];rfl
  refine⟨by unfold hdD;rw[List.length_map,List.length_set,hl],fun v hv=>?_,fun c hc=>?_⟩
  · unfold hdD at hv
    obtain⟨d,hd,rfl⟩:=List.mem_map.1 hv
    rcases List.mem_or_eq_of_mem_set hd with hd | rfl
    · obtain⟨j,hj,rfl⟩:=List.mem_iff_getElem.1 hd
      have hm:=sF (hF _ (List.getElem_mem hj));exact hr j _ (by rw[List.getD_eq_getElem?_getD,List.getElem?_eq_getElem hj];exact hm)
    · exact hr i a ha
  · obtain⟨hsc,r,r0,r1,r2,r3⟩:=hC c hc
    obtain⟨n,e,n1,n4,_,hm⟩:=hu.r r r2
    have hk:c∈y.cons.take y.cons.length:=by rw[List.take_length];exact hc
    have hpos:0<c.scope.length:=by omega
    have key:∃ tt∈r.tuples,agB c.scope tt=true∧sB D c.scope tt=true∧∀ p v,c.scope[p]?=some v→v.toNat=i→tt.getD p 0=a:=by
      by_cases hex:∃ (p:Nat) (v:Int),c.scope[p]?=some v∧v.toNat=i
      · obtain⟨p,v,hp,hv⟩:=hex
        have hs:=hS c hk p v hp a (by rw[hv];exact ha)
        unfold rM at hs
        rw[dX r0 r1,Option.getD_some,List.any_eq_true] at hs;obtain⟨tt,ht,hs⟩:=hs
        unfold yM at hs
        rw[Bool.and_eq_true,Bool.and_eq_true,beq_iff_eq] at hs;refine⟨tt,ht,hs.2.1,hs.2.2,fun q w hq hw=>?_⟩;have hpl:=(List.getElem?_eq_some_iff.1 hp).1;have hql:=(List.getElem?_eq_some_iff.1 hq).1;have hpv:=hsc v (List.mem_of_getElem? hp);have hqv:=hsc w (List.mem_of_getElem? hq);rw[← hs.1];refine xVc hs.2.1 hpl hql ?_;rw[List.getD_eq_getElem?_getD,List.getD_eq_getElem?_getD,hp,hq]
        show w=v
        omega
      · have h0:c.scope[0]?=some c.scope[0]:=List.getElem?_eq_getElem hpos
        have hv0:=hsc _ (List.getElem_mem hpos);have hs:=hS c hk 0 _ h0 _ (sF (uD hF (by omega)))
        unfold rM at hs
        rw[dX r0 r1,Option.getD_some,List.any_eq_true] at hs;obtain⟨tt,ht,hs⟩:=hs
        unfold yM at hs
        rw[Bool.and_eq_true,Bool.and_eq_true] at hs;exact⟨tt,ht,hs.2.1,hs.2.2,fun q w hq hw=>absurd ⟨q,w,hq,hw⟩ hex⟩
    obtain⟨tt,ht,hag,hlf,hta⟩:=key
    have htl:tt.length=c.scope.length:=by have:=(rR.1 (hm tt ht)).1;omega
    unfold xId
    rw[decide_eq_true_iff,List.getD_eq_getElem?_getD,r1]
    have:atV (hdD (D.set i [a])) c.scope=tt:=by
      apply List.ext_getElem?
      intro k
      by_cases hkl:k<c.scope.length
      · have hkc:c.scope[k]?=some c.scope[k]:=List.getElem?_eq_getElem hkl
        have hkt:tt[k]?=some tt[k]:=List.getElem?_eq_getElem (by omega);have hv:=hsc _ (List.getElem_mem hkl)
        unfold atV
        rw[List.getElem?_map,hkc,hkt]
        show some _=some _
        congr 1
        show(hdD (D.set i [a])).getD (c.scope[k]).toNat 0=tt[k]
        by_cases hki:c.scope[k].toNat=i
        · rw[hki,hgi]
          have:=hta k _ hkc hki;rw[List.getD_eq_getElem?_getD,hkt] at this;exact this.symm
        · exact(hg _ (by omega) hki _ (xIn D c.scope tt hlf k _ _ hkc hkt)).symm
      · rw[List.getElem?_eq_none (by rw[xTy];omega),List.getElem?_eq_none (by omega)]
    rw[this];exact ht
theorem xOo {D:List (List Int)} {i:Nat} {a:Int} (hF:pL D):Fit (D.set i [a]) (hdD (D.set i [a])):=fun j hj=>by
  rw[xGi];refine sF ?_;rw[List.length_set] at hj
  by_cases h:j=i
  · subst h;rw[List.getD_eq_getElem?_getD,List.getElem?_set_self hj];simp
  · rw[List.getD_eq_getElem?_getD,List.getElem?_set_ne (fun e=>h e.symm),← List.getD_eq_getElem?_getD];exact uD hF hj
def xGa (x:Template) (y:Instance) (D:List (List Int)) (s:ArcStep):Prop:=
  (0≤s.var∧s.var<y.vars)∧s.value∈D.getD s.var.toNat []∧0≤s.con∧∃ c p,y.cons[s.con.toNat]?=some c∧c.scope[p]?=some s.var∧rM x c D p s.value=false
def xFo (D:List (List Int)) (s:ArcStep):List (List Int):=D.set s.var.toNat ((D.getD s.var.toNat []).filter (· != s.value))
inductive Rep (x:Template) (y:Instance) (D:List (List Int)):List ArcStep→List (List Int)→Prop
  | nil:Rep x y D [] D
  | snoc {o:List ArcStep} {d:List (List Int)} {s:ArcStep}:Rep x y D o d→xGa x y d s→Rep x y D (o++[s]) (xFo d s)
theorem xOw {D:List (List Int)} (hF:pL D) {i:Nat} {a:Int} (ha:a∈D.getD i []):prd (D.set i ((D.getD i []).filter (· != a)))+1≤prd D:=by
  have hi:i<D.length:=by
    rcases Nat.lt_or_ge i D.length with h | h
    · exact h
    · rw[List.getD_eq_getElem?_getD,List.getElem?_eq_none h] at ha;cases ha
  have hd:D[i]?=some (D.getD i []):=by rw[List.getD_eq_getElem?_getD,List.getElem?_eq_getElem hi];rfl
  have h1:=xCo D i (D.getD i []) ((D.getD i []).filter (· != a)) hd;have h2:=xBd ha;have h3:=xCi hF
  rcases Nat.lt_or_ge (prd (D.set i ((D.getD i []).filter (· != a)))) (prd D) with h | h
  · exact h
  · have h4:prd D*(D.getD i []).length≤prd (D.set i ((D.getD i []).filter (· != a)))*(D.getD i []).length:=Nat.mul_le_mul_right _ h
    have h5:prd D*((D.getD i []).filter (· != a)).length+prd D≤prd D*(D.getD i []).length:=by
      rw[← Nat.mul_succ];exact Nat.mul_le_mul_left _ h2
    omega
structure KR (x:Template) (y:Instance) (D:List (List Int)) (o:List ArcStep) (d:List (List Int)):Prop where
  kp:Kp x y D d
  rep:Rep x y D o d
  le:o.length+prd d≤prd D
theorem KR.refl (x:Template) (y:Instance) (D:List (List Int)):KR x y D [] D:=⟨Kp.refl x y D,.nil,by simp⟩
theorem KR.stay {t:Template} {y:Instance} {D0:List (List Int)} {c:Con} {kc:Nat} (hl:D0.length=y.vars.toNat) (hC:CV t y.vars c) (hk:y.cons[kc]?=some c) (p:Nat) (v:Int) (hp:c.scope[p]?=some v):xPq (KR t y D0) t c kc p v:=fun out dom a h hF ha hb=>by
  have hsc:=hC.1 v (List.mem_of_getElem? hp);refine⟨Kp.stay hl hC (List.mem_of_getElem? hk) p v hp dom a h.kp hb,Rep.snoc (s:=ArcStep.mk v a (kc:Int)) h.rep ⟨hsc,ha,by simp,c,p,by simpa using hk,hp,hb⟩,?_⟩;have:=xOw hF ha;have:=h.le;rw[List.length_append,List.length_singleton]
  omega
end Go.Proofs.YtfmnjkpddljdcaaGreatDoor
namespace Go.Proofs.YtfmnjkpddljdcaaGreatDoor
set_option linter.unusedVariables false
set_option linter.unusedSimpArgs false
def CtlG {σ σ' ρ ρ':Type} (R:σ→σ'→Prop) (EE:Out σ ρ→Out σ' ρ'→Prop):Ctl σ ρ→Ctl σ' ρ'→Prop
  | .go s,.go s'=>R s s'
  | .brk s,.brk s'=>EE (.nx s) (.nx s')
  | .brk s,.ret r'=>EE (.nx s) (.ret r')
  | .ret r,.brk s'=>EE (.ret r) (.nx s')
  | .ret r,.ret r'=>EE (.ret r) (.ret r')
  | _,_=>False
theorem fE.loop {σ σ' ρ ρ':Type} {P:ρ→ρ'→Prop} (R:σ→σ'→Prop) (μ:σ→Nat) {f:σ→Option (Ctl σ ρ)} {g:σ'→Option (Ctl σ' ρ')} {k:σ→Option ρ} {k':σ'→Option ρ'} :
    ∀ {N:Nat} {s:σ} {s':σ'},μ s<N→R s s'→(∀ s s',R s s'→fE (f s) (g s') (CtlG (fun t t'=>R t t'∧μ t<μ s) (fun e e'=>fE (Go.Proofs.YtfmnjkpddljdcaaGreatDoor.kY (some e) k) (Go.Proofs.YtfmnjkpddljdcaaGreatDoor.kY (some e') k') P)))→fE (Go.Proofs.YtfmnjkpddljdcaaGreatDoor.kY (Go.Proofs.YtfmnjkpddljdcaaGreatDoor.lD f N s) k) (Go.Proofs.YtfmnjkpddljdcaaGreatDoor.kY (Go.Proofs.YtfmnjkpddljdcaaGreatDoor.lD g N s') k') P
  | 0,_,_,h,_,_=>by omega
  | N+1,s,s',hN,h,hh=>by
    obtain⟨a,b,h1,h2,h3⟩:=hh s s' h
    cases a with
    | go t=>
      cases b with
      | go t'=>
        rw[mY h1,mY h2];exact fE.loop R μ (by have:=h3.2;omega) h3.1 hh
      | brk t'=>exact h3.elim
      | ret r'=>exact h3.elim
    | brk t=>
      cases b with
      | go t'=>exact h3.elim
      | brk t'=>rw[iP h1,iP h2];exact h3
      | ret r'=>rw[iP h1,wN h2];exact h3
    | ret r=>
      cases b with
      | go t'=>exact h3.elim
      | brk t'=>rw[wN h1,iP h2];exact h3
      | ret r'=>rw[wN h1,wN h2];exact h3
theorem wY {ρ:Type} (f:ArcStep→Line):∀ (out:List ArcStep) (k:Nat) (s:List Line),s.length+out.length≤1048576→qW (σ:=List Line) (ρ:=ρ) (fun(k:Nat) (x:ArcStep) (s:List Line)=>xY (ap s [f x]) fun z=>some (.go z)) out k s=some (.nx (s++out.map f))
  | [],_,s,_=>by simp
  | x::out,k,s,h=>by
    rw[List.length_cons] at h;rw[aJ (s':=s++[f x]) (by rw[bS (by simp only[List.length_cons,List.length_nil];omega),bnd_s]),wY f out (k+1) _ (by simp only[List.length_append,List.length_singleton];omega)]
    simp
theorem xDy {ρ:Type}:∀ (dom:List (List Int)) (k:Nat) (s:List Int),pL dom→s.length+dom.length≤1048576→qW (σ:=List Int) (ρ:=ρ) (fun(k:Nat) (x:List Int) (s:List Int)=>xY (ix x 0) fun z=>xY (ap s [z]) fun z2=>some (.go z2)) dom k s=some (.nx (s++dom.map (fun d=>d.getD 0 0)))
  | [],_,s,_,_=>by simp
  | x::dom,k,s,hF,h=>by
    rw[List.length_cons] at h;have hx:0<x.length:=List.length_pos_iff.2 (hF x (by simp));have h0:ix x 0=some (x.getD 0 0):=nB (k:=0) hx;rw[aJ (s':=s++[x.getD 0 0]) (by rw[h0,bnd_s,bS (by simp only[List.length_cons,List.length_nil];omega),bnd_s]),xDy dom (k+1) _ (fun d hd=>hF d (by simp [hd])) (by simp only[List.length_append,List.length_singleton];omega)]
    simp
theorem own_lists {ρ:Type} (g:List Int→Option (List Int)) (hg:∀ l:List Int,l.length≤1048576→g l=some l):∀ (dom:List (List Int)) (k:Nat) (s:List (List Int)),(∀ d∈dom,d.length≤1048576)→s.length+dom.length≤1048576→qW (σ:=List (List Int)) (ρ:=ρ) (fun(k:Nat) (x:List Int) (s:List (List Int))=>xY (g x) fun z=>xY (ap s [z]) fun z2=>some (.go z2)) dom k s=some (.nx (s++dom))
  | [],_,s,_,_=>by simp
  | x::dom,k,s,hF,h=>by
    rw[List.length_cons] at h;rw[aJ (s':=s++[x]) (by rw[hg x (hF x (by simp)),bnd_s,bS (by simp only[List.length_cons,List.length_nil];omega),bnd_s]),own_lists g hg dom (k+1) _ (fun d hd=>hF d (by simp [hd])) (by simp only[List.length_append,List.length_singleton];omega)]
    simp
theorem tL (dom:List (List Int)) (h:∀ d∈dom,d.length≤1048576) (hl:dom.length≤1048576):eO dom=some dom:=by
  unfold eO
  rw[own_lists _ xCy dom 0 [] h (by simpa using hl),thn_nx];rfl
theorem xAa (dom:List (List Int)) (h:∀ d∈dom,d.length≤1048576) (hl:dom.length≤1048576):eZ dom=some dom:=by
  unfold eZ
  rw[own_lists _ own_eq dom 0 [] h (by simpa using hl),thn_nx];rfl
theorem xNt (dom:List (List Int)) (a:Template) (b:Instance) (c d:Int) (e:List Line) (f:List Int) (g:Bool):∃ v,tU dom=some v∧eF a b c d e f g dom=some v∧ -1≤v∧(0≤v→∃ q,ix dom v=some q∧dom[v.toNat]?=some q∧2≤q.length)∧(v<0→∀ d∈dom,d.length≤1):=by
  unfold tU eF
  obtain⟨s',h1,h2,h3⟩:=xFm (l:=dom) (k:=0) (s:=(-1:Int)) (f:=fun(k67:Nat) (x69:(List Int)) (s63:Int)=>
      kY (σ:=Bool) (
        if (decide (2≤(x69.length:Int))) then   if (decide (s63<0)) then   some (.nx true) else   xY (ix dom s63) fun z104=>
            some (.nx (decide ((x69.length:Int)<(z104.length:Int)))) else   some (.nx false)) fun s99=>
      if s99 then
        some (Ctl.go (ρ:=Int) (k67:Int))
      else
        some (.go s63)) (g:=fun(k92:Nat) (x94:(List Int)) (s88:Int)=>
      kY (σ:=Bool) (
        if (decide (1<(x94.length:Int))) then   if (decide (s88<0)) then   some (.nx true) else   xY (ix dom s88) fun z154=>
            some (.nx (decide ((x94.length:Int)<(z154.length:Int)))) else   some (.nx false)) fun s133=>
      if s133 then
        some (Ctl.go (ρ:=Int) (k92:Int))
      else
        some (.go s88)) (fun k s=>-1≤s∧s<(k:Int)∧(0≤s→∃ q,ix dom s=some q∧dom[s.toNat]?=some q∧2≤q.length)∧(s<0→∀ d∈dom.take k,d.length≤1)) ⟨by omega,by omega,(fun h=>by omega),fun _ d hd=>by simp at hd⟩ (fun j x s hj hI=>by
    obtain⟨i1,i2,i3,i4⟩:=hI;rw[Nat.zero_add] at i2 i4 ⊢
    have hd:decide (1<(x.length:Int))=decide (2≤(x.length:Int)):=by
      by_cases h:2≤(x.length:Int)
      · rw[decide_eq_true h,decide_eq_true (by omega)]
      · rw[decide_eq_false h,decide_eq_false (by omega)]
    rw[hd];have hgo:2≤(x.length:Int)→ -1≤(j:Int)∧(j:Int)<((j+1:Nat):Int)∧(0≤(j:Int)→∃ q,ix dom (j:Int)=some q∧dom[(j:Int).toNat]?=some q∧2≤q.length)∧((j:Int)<0→∀ d∈dom.take (j+1),d.length≤1):=fun h=>⟨by omega,by omega,fun _=>⟨x,zI hj,by simpa using hj,by omega⟩,fun h=>by omega⟩
    have hst:(s<0→x.length≤1)→ -1≤s∧s<((j+1:Nat):Int)∧(0≤s→∃ q,ix dom s=some q∧dom[s.toNat]?=some q∧2≤q.length)∧(s<0→∀ d∈dom.take (j+1),d.length≤1):=fun hx=>⟨i1,by omega,i3,fun h d hd=>by
      rw[List.take_add_one,hj] at hd
      rcases List.mem_append.1 hd with hd | hd
      · exact i4 h d hd
      · simp only[Option.toList,List.mem_singleton] at hd
        rw[hd];exact hx h⟩
    by_cases h2:2≤(x.length:Int)
    · rw[decide_eq_true h2]
      by_cases h3:s<0
      · rw[decide_eq_true h3]
        exact⟨(j:Int),rfl,rfl,hgo h2⟩
      · rw[decide_eq_false h3]
        obtain⟨q,q1,q2,q3⟩:=i3 (by omega);simp only[if_true,Bool.false_eq_true,if_false,q1,bnd_s,thn_nx]
        by_cases h4:(x.length:Int)<(q.length:Int)
        · rw[decide_eq_true h4];exact⟨(j:Int),rfl,rfl,hgo h2⟩
        · rw[decide_eq_false h4];exact⟨s,rfl,rfl,hst (fun h=>absurd h h3)⟩
    · rw[decide_eq_false h2]
      exact⟨s,rfl,rfl,hst (fun _=>by omega)⟩)
  rw[h1,h2,thn_nx];exact⟨s',rfl,rfl,h3.1,h3.2.2.1,fun h d hd=>h3.2.2.2 h d (by rw[Nat.zero_add,List.take_length];exact hd)⟩
theorem xQf {N n:Nat} {x:Template} {y:Instance} {bud st cd:Int} {ln:List Line} {vl:List Int} {dom:List (List Int)} (hN:60≤N) (hn:n≤10) (hnv:n=y.vars.toNat) (hC:∀ c∈y.cons,CV x y.vars c) (hy:∀ c∈y.cons,ConOk x c n) (hok:DomOk n 40 dom) (hs0:0≤st) (hs1:st<bud) (hb:bud≤5000) (hln:(ln.length:Int)≤42*st) :
    ∃ dom' out,lE N x.size x.rels y.vars y.cons bud st ln vl cd dom=some (true,st+1,ln++out.map (fun a=>Line.mk 2 a.var a.value a.con),cd,dom')∧bZ N x y dom true=some (out,dom')∧DomOk n 40 dom'∧out.length≤40∧KR x y dom out dom'∧(pL dom'→xCs x y y.cons.length dom'):=by
  have hck:ck (st+1)=some (st+1):=kI (by omega) (by omega);have hlen:=hok.len;have hle:=hok.le
  unfold lE
  rw[if_neg (by simp;omega),hck,bnd_s,xBm,bnd_s]
  by_cases hF:pL dom
  · have hok2:DomOk n (tot dom) dom:=⟨hok.len,hok.nd,Nat.le_refl _⟩
    obtain⟨⟨out,dom'⟩,r',h1,h2,rfl,h3,h4,h5,h6⟩:=xQg (N:=N) (K:=KR x y dom) (x:=x) (y:=y) (fun kc c hc p v hp=>KR.stay (by omega) (hC c (List.mem_of_getElem? hc)) hc p v hp) (KR.refl x y dom) (by omega) hy hok2 (by omega) (by omega) (by omega) (by omega) hF;simp only at h3 h4 h5 h6;refine⟨dom',out,?_,h2,⟨h3.len,h3.nd,by omega⟩,by omega,h5,h6⟩;rw[(uH dom).2 hF,if_neg (by simp),show(Template.mk x.size x.rels)=x from rfl,show(Instance.mk y.vars y.cons)=y from rfl,h1,bnd_s];simp only;rw[wY (fun a=>Line.mk 2 a.var a.value a.con) out 0 ln (by omega),thn_nx]
  · have h2:(dom.any (fun d=>(d.length:Int)==0))=true:=by
      cases h3:(dom.any (fun d=>(d.length:Int)==0)) with
      | true=>rfl
      | false=>exact absurd ((uH dom).1 h3) hF
    refine⟨dom,[],?_,xNl (by omega) (by omega) hF,hok,by simp,KR.refl x y dom,fun h=>absurd h hF⟩;rw[h2,if_pos rfl]
    simp
inductive Rn (x:Template) (y:Instance):List (List Int)→List Line→List (List Int)→Prop
  | nil {D:List (List Int)}:Rn x y D [] D
  | rem {D D1:List (List Int)} {l:List Line} {s:ArcStep}:Rn x y D l D1→xGa x y D1 s→Rn x y D (l++[Line.mk 2 s.var s.value s.con]) (xFo D1 s)
  | pair {D D1 D2:List (List Int)} {l s:List Line} {v a i:Int} {q:List Int}:Rn x y D l D1→(0≤v∧v<y.vars)→D1[v.toNat]?=some q→a∈q→2≤q.length→Rn x y (D1.set v.toNat [a]) s D2→(0≤i∧i<y.vars)→D2[i.toNat]?=some []→Rn x y D (l++([Line.mk 1 v a 0]++(s++[Line.mk 3 i 0 0]))) (D1.set v.toNat (q.filter (· != a)))
theorem Rn.reps {x:Template} {y:Instance} {D d:List (List Int)} {l:List Line} (h:Rn x y D l d) {o:List ArcStep} {d':List (List Int)} (hr:Rep x y d o d'):Rn x y D (l++o.map (fun a=>Line.mk 2 a.var a.value a.con)) d':=by
  induction hr with
  | nil=>simpa using h
  | snoc _ hs ih=>
    rw[List.map_append,← List.append_assoc];exact ih.rem hs
theorem xNw {α : Type} (l : List α) (p : α → Bool) (f : α → Option Bool) (hf : ∀ x ∈ l, f x = some (p x)) : ∃ i : Int, kY (qW (σ := Unit) (ρ := Int) (fun (k : Nat) (x : α) (s : Unit) =>
      match s with
      | _=>
        xY (f x) fun z=>
        if z then
          some (.ret ((k:Int)))
        else
          some (.go ())) l 0 ()) (fun _=>some (-1))=some i∧decide (0≤i)=l.any p∧(l.any p=true→0≤i∧∃ q,l[i.toNat]?=some q∧p q=true):=by
  have key:∀ (l:List α) (k:Nat),(∀ x∈l,f x=some (p x))→(l.any p=true∧∃ (i:Nat) (q:α),qW (σ:=Unit) (ρ:=Int) (fun(k:Nat) (x:α) (s:Unit)=>
      match s with
      | _=>
        xY (f x) fun z=>
        if z then
          some (.ret ((k:Int)))
        else
          some (.go ())) l k ()=some (.ret (((k+i:Nat)):Int))∧l[i]?=some q∧p q=true)∨(l.any p=false∧qW (σ:=Unit) (ρ:=Int) (fun(k:Nat) (x:α) (s:Unit)=>
      match s with
      | _=>
        xY (f x) fun z=>
        if z then
          some (.ret ((k:Int)))
        else
          some (.go ())) l k ()=some (.nx ())):=by
    intro l
    induction l with
    | nil=>intro k _;exact .inr ⟨rfl,rfl⟩
    | cons x l ih=>
      intro k hf;have h0:=hf x (by simp)
      by_cases hv:p x=true
      · exact .inl ⟨by simp [hv],0,x,jL (by simp only[h0,bnd_s,hv,if_true];rfl),rfl,hv⟩
      · have hv':p x=false:=by simpa using hv
        rw[aJ (s':=()) (by simp only[h0,bnd_s,hv',Bool.false_eq_true,if_false])]
        rcases ih (k+1) (fun z hz=>hf z (by simp [hz])) with ⟨h1,i,q,h2,h3,h4⟩ | ⟨h1,h2⟩
        · exact .inl ⟨by simp [h1],i+1,q,by rw[h2,Nat.add_assoc,Nat.add_comm 1 i],by simpa using h3,h4⟩
        · exact .inr ⟨by simp [hv',h1],h2⟩
  rcases key l 0 hf with ⟨h1,i,q,h2,h3,h4⟩ | ⟨h1,h2⟩
  · exact⟨(i:Int),by rw[h2,thn_ret];simp,by simp [h1],fun _=>⟨by omega,q,by simpa using h3,h4⟩⟩
  · exact⟨-1,by rw[h2,thn_nx],by simp [h1],fun h=>by rw[h1] at h;cases h⟩
def Rg (x:Template) (dom:List (List Int)):Prop:=∀ i a,a∈dom.getD i []→0≤a∧a<x.size
theorem sV {D:List (List Int)} {v:Nat} {q w:List Int} (hq:D[v]?=some q) (hw:∀ a∈w,a∈q):∀ i a,a∈(D.set v w).getD i []→a∈D.getD i []:=fun i a ha=>by
  have hv:=(List.getElem?_eq_some_iff.1 hq).1
  by_cases h:i=v
  · subst h
    rw[List.getD_eq_getElem?_getD,List.getElem?_set_self hv] at ha;rw[List.getD_eq_getElem?_getD,hq];exact hw a ha
  · rw[List.getD_eq_getElem?_getD,List.getElem?_set_ne (fun e=>h e.symm)] at ha
    rw[List.getD_eq_getElem?_getD];exact ha
theorem xAc {D:List (List Int)} {v:Nat} {w:List Int} {vs:List Int} (h:Fit D vs) (hw:vs.getD v 0∈w):Fit (D.set v w) vs:=fun i hi=>by
  rw[List.length_set] at hi
  by_cases e:i=v
  · subst e;rw[List.getD_eq_getElem?_getD (l:=D.set _ _),List.getElem?_set_self hi];exact hw
  · rw[List.getD_eq_getElem?_getD (l:=D.set _ _),List.getElem?_set_ne (fun h=>e h.symm),← List.getD_eq_getElem?_getD];exact h i hi
theorem xMm {D E:List (List Int)} {vs:List Int} (hl:D.length=E.length) (h:Fit D vs) (hs:∀ i a,a∈D.getD i []→a∈E.getD i []):Fit E vs:=fun i hi=>hs i _ (h i (by omega))
theorem yQ:∀ (d e:List Int),d.Nodup→(∀ a∈d,a∈e)→d.length≤e.length
  | [],_,_,_=>by simp
  | a::d,e,h,hs=>by
    obtain⟨h1,h2⟩:=List.nodup_cons.1 h;have h3:a∈e:=hs a (by simp);have h4:=yQ d (e.erase a) h2 (fun b hb=>(List.mem_erase_of_ne (a:=b) (b:=a) (fun e'=>by subst e';exact h1 hb)).2 (hs b (by simp [hb])));have h5:=List.length_erase_of_mem h3;have h6:=List.length_pos_of_mem h3;rw[List.length_cons]
    omega
theorem xMg {v w:Int} {L n:Nat} (h1:v.toNat<L) (h2:L=n) (h3:n=w.toNat):v<w:=by omega
theorem xVr {bud st t:Int} {m:Nat} (h:(bud - st).toNat≤m+1) (h0:st≤t) (h1:t<bud):(bud - (t+1)).toNat≤m:=by omega
theorem xKo {D E:List (List Int)} (hn:∀ d∈D,d.Nodup) (hs:∀ i a,a∈D.getD i []→a∈E.getD i []) (i:Nat):(D.getD i []).length≤(E.getD i []).length:=by
  have hnd:(D.getD i []).Nodup:=by
    by_cases hi:i<D.length
    · rw[List.getD_eq_getElem?_getD,List.getElem?_eq_getElem hi];exact hn _ (List.getElem_mem hi)
    · rw[List.getD_eq_getElem?_getD,List.getElem?_eq_none (by omega)];exact List.nodup_nil
  exact yQ _ _ hnd (fun a ha=>hs i a ha)
theorem xIs:∀ {D:List (List Int)},¬ pL D→prd D=0
  | [],h=>absurd (fun d hd=>nomatch hd) h
  | d::D,h=>by
    unfold prd
    rcases Nat.eq_zero_or_pos d.length with h0 | h0
    · rw[h0,Nat.zero_mul]
    · rw[xIs (D:=D) (fun hF=>h (fun e he=>by
        rcases List.mem_cons.1 he with rfl | he
        · intro h1;rw[h1] at h0;simp at h0
        · exact hF e he)),Nat.mul_zero]
def Hdl (st t:Int) (a b p:Nat):Prop:=(t=st∧a=b)∨2≤p
theorem xWk {a b c:Nat} (h:a≤b+1∨a+1≤b+3*c) (hc:2≤c):a+1≤b+3*c:=by omega
theorem Hdl.l1 {st t:Int} {a b p P:Nat} (h:Hdl st t a b p) (hp:t+p≤st+P):t+1≤st+1∨t+1+1≤st+P:=by
  rcases h with ⟨h,_⟩ | h
  · exact .inl (by omega)
  · exact .inr (by omega)
theorem Hdl.l2 {st t:Int} {a b p P o z:Nat} (h:Hdl st t a b p) (h3:a+3*p≤b+3*P) (hz:z=0) (ho:o+z≤p):a+o+1≤b+1∨a+o+1+1≤b+3*P:=by
  rcases h with ⟨_,h⟩ | h
  · rcases Nat.eq_zero_or_pos p with h2 | h2
    · exact .inl (by omega)
    · exact .inr (by omega)
  · exact .inr (by omega)
theorem inv3 {a o p' p1 p2 p b P c:Nat} (h1:a+3*p≤b+3*P) (h2:o+p'≤p) (h3:p1+p2=p') (h4:c+1≤a+o+1+3*p1):c+3*p2≤b+3*P:=by omega
structure LEnd (x:Template) (y:Instance) (n:Nat) (st:Int) (dom:List (List Int)) (ln:List Line) (r:Bool×Int×(List Line)×(List Int)×Int×(List (List Int))) (r':Bool×Int×(List Line)×(List Int)×Bool×(List (List Int))):Prop where
  eb:r'.1 = !r.1
  est:r'.2.1=r.2.1
  eln:r'.2.2.1=r.2.2.1
  evl:r'.2.2.2.1=r.2.2.2.1
  ecd:r.2.2.2.2.1=0∧r'.2.2.2.2.1=false
  ego:r.1=true→r.2.2.2.1=[]
  elo:st+1≤r.2.1
  ehi:r.1=false→r.2.1≤st+prd dom
  efl:r.1=true→r.2.1≤st+1∨r.2.1+1≤st+prd dom
  ele:(r.2.2.1.length:Int)≤42*r.2.1
  evn:r.2.2.2.1.length≤n
  eno:r.1=true→∀ vs,Sol x y vs→¬ Fit dom vs
  eye:r.1=false→Sol x y r.2.2.2.1∧Fit dom r.2.2.2.1
  ell:r.1=true→r.2.2.1.length≤ln.length+1∨r.2.2.1.length+1≤ln.length+3*prd dom
  ebr:r.1=true→∃ seg i d2,Rn x y dom seg d2∧(0≤i∧i<y.vars)∧d2[i.toNat]?=some []∧r.2.2.1=ln++(seg++[Line.mk 3 i 0 0])
theorem xMy {T n:Nat} {x:Template} {y:Instance} {bud:Int} (hu:TV T x) (hn:n≤10) (hnv:n=y.vars.toNat) (hn1:1≤n) (hC:∀ c∈y.cons,CV x y.vars c) (hy:∀ c∈y.cons,ConOk x c n) (hb:bud≤5000):∀ (m N:Nat) (st:Int) (ln:List Line) (dom:List (List Int)),(bud - st).toNat≤m→m+70≤N→0≤st→(ln.length:Int)≤42*st→DomOk n 40 dom→Rg x dom→st+1≤bud→st+prd dom≤bud →
    fE (fZ N x.size x.rels y.vars y.cons bud st ln [] 0 dom) (aP N x y bud st ln [] false dom) (LEnd x y n st dom ln):=by
  intro m
  induction m with
  | zero=>intro N st ln dom hm hN h0 hl hok hrg hs1 hs2;omega
  | succ m ih=>
    intro N st ln dom hm hN h0 hl hok hrg hs1 hs2;obtain⟨N,rfl⟩:∃ k,N=k+1:=⟨N - 1,by omega⟩;rw[fZ,aP];refine fE.loop (fun s s'=>∃ d t l,s=(d,t,l,[],0)∧s'=(d,t,l,[],false)∧st≤t∧t<bud∧(l.length:Int)≤42*t∧DomOk n 40 d∧t+prd d≤st+prd dom∧Hdl st t l.length ln.length (prd d)∧l.length+3*prd d≤ln.length+3*prd dom∧(∀ i a,a∈d.getD i []→a∈dom.getD i [])∧(∀ vs,Sol x y vs→Fit dom vs→Fit d vs)∧∃ seg,Rn x y dom seg d∧l=ln++seg) (fun s=>(bud - s.2.1).toNat) (by simp only;omega) ⟨dom,st,ln,rfl,rfl,by omega,by omega,hl,hok,by omega,Or.inl ⟨rfl,rfl⟩,Nat.le_refl _,(fun _ _ h=>h),(fun _ _ h=>h),[],Rn.nil,by simp⟩ (fun s s' hR=>?_);obtain⟨d,t,l,rfl,rfl,ht0,htb0,hll,hdok,hpd,htd,hll3,hsub,hkeep,seg,hseg,hsl⟩:=hR;simp only
    have htb:t≠bud:=by omega
    have ht1:t<bud:=htb0;obtain⟨d',out,e1,e2,hd'ok,hout,hkr,hsup⟩:=xQf (N:=N) (bud:=bud) (st:=t) (cd:=0) (ln:=l) (vl:=[]) (dom:=d) (x:=x) (y:=y) (by omega) hn hnv hC hy hdok (by omega) (by omega) hb hll;have hkp:=hkr.kp;have hrle:=hkr.le;obtain⟨ln',hln'⟩:∃ q,q=l++out.map (fun a=>Line.mk 2 a.var a.value a.con):=⟨_,rfl⟩;rw[← hln'] at e1
    have hln'l:(ln'.length:Int)≤42*t+40:=by rw[hln',List.length_append,List.length_map];omega
    have hbal:Rn x y dom (seg++out.map (fun a=>Line.mk 2 a.var a.value a.con)) d':=hseg.reps hkr.rep;obtain⟨sg,hsg⟩:∃ sg,sg=seg++out.map (fun a=>Line.mk 2 a.var a.value a.con):=⟨_,rfl⟩
    have hlns:ln'=ln++sg:=by rw[hln',hsg,hsl,List.append_assoc]
    rw[← hsg] at hbal
    have hln'e:ln'.length=l.length+out.length:=by rw[hln',List.length_append,List.length_map]
    have hd'len:=hd'ok.len;have hd'le:=hd'ok.le;have hdlen:=hdok.len;have hdomlen:=hok.len;have hck:ck (t+1)=some (t+1):=kI (by omega) (by omega)
    have hsml:∀ q∈d',q.length≤1048576:=fun q hq=>by have:=fA hq;omega
    have hrg':Rg x d':=fun i a ha=>hrg i a (hsub i a (hkp.sub i a ha));have hpd':prd d'≤prd d:=xOi d' d (by omega) (fun i=>xKo hd'ok.nd hkp.sub i);have hkeep':∀ vs,Sol x y vs→Fit dom vs→Fit d' vs:=fun vs h1 h2=>hkp.sol vs h1 (hkeep vs h1 h2);have hsub':∀ i a,a∈d'.getD i []→a∈dom.getD i []:=fun i a ha=>hsub i a (hkp.sub i a ha);refine fE.l e1 ?_;rw[if_pos rfl,if_neg (by simpa using htb)];refine fE.r hck (fE.r e2 ?_);simp only;rw[wY (fun a=>Line.mk 2 a.var a.value a.con) out 0 l (by omega),thn_nx,← hln'];obtain⟨i,i1,i2,i5⟩:=xNw d' (fun q=>(q.length:Int)==0) (fun a0=>lZ a0) (fun _ _=>rfl);have i3:kE d' (fun a0=>lZ a0)=some i:=i1;have i4:fV x y bud (t+1) ln' [] false d'=some i:=i1;refine fE.l i3 (fE.r i4 ?_)
    cases hany:d'.any (fun q=>(q.length:Int)==0) with
    | true=>
      rw[hany] at i2;have hap:ap ln' [Line.mk 3 i 0 0]=some (ln'++[Line.mk 3 i 0 0]):=bS (by simp only[List.length_cons,List.length_nil];omega);rw[if_pos i2,if_pos i2];refine fE.l hap (fE.r hap (fE.s ?_))
      show fE (kY (some (.ret _)) _) (kY (some (.ret _)) _) _
      rw[thn_ret,thn_ret];obtain⟨hi0,iq,hi1',hi2'⟩:=i5 hany;have hi1:=(List.getElem?_eq_some_iff.1 hi1').1
      have hiq:iq=[]:=by
        have h9:((iq.length:Int)==0)=true:=hi2'
        have h8:(iq.length:Int)=0:=by simpa using h9
        exact List.length_eq_zero_iff.1 (by omega)
      have hie:d'[i.toNat]?=some []:=by rw[hi1',hiq]
      have hnf:¬ pL d':=fun h=>by have:=(uH d').2 h;rw[hany] at this;cases this
      refine fE.s ⟨rfl,rfl,rfl,rfl,⟨rfl,rfl⟩,fun _=>rfl,by simp only;omega,(fun h=>nomatch h),fun _=>?_,by simp only[List.length_append,List.length_singleton];omega,by simp,fun _ vs h1 h2=>?_,(fun h=>nomatch h),fun _=>?_,fun _=>⟨sg,i,d',hbal,⟨hi0,xMg hi1 hd'len hnv⟩,hie,by simp only[hlns,List.append_assoc]⟩⟩
      · exact htd.l1 hpd
      · refine hnf (fun e he h0=>?_)
        obtain⟨j,hj,rfl⟩:=List.mem_iff_getElem.1 he;have:=hkeep' vs h1 h2 j hj;rw[List.getD_eq_getElem?_getD (l:=d'),List.getElem?_eq_getElem hj,Option.getD_some,h0] at this
        cases this
      · show(ln'++[Line.mk 3 i 0 0]).length≤ln.length+1∨(ln'++[Line.mk 3 i 0 0]).length+1≤ln.length+3*prd dom
        rw[List.length_append,List.length_singleton,hln'e];exact htd.l2 hll3 (xIs hnf) hrle
    | false=>
      rw[hany] at i2;have hF':=(uH d').1 hany;have hS':=hsup hF';have hp':=xCi hF';rw[if_neg (by rw[i2];simp),if_neg (by rw[i2];simp)];obtain⟨v,b1,b2,b3,b4,b5⟩:=xNt d' x y bud (t+1) ln' [] false;refine fE.l b1 (fE.r b2 ?_)
      by_cases hv:v<0
      · rw[if_pos (by simpa using hv),if_pos (by simpa using hv)]
        rw[xDy d' 0 [] hF' (by simp;omega),xDy d' 0 [] hF' (by simp;omega),thn_nx,thn_nx];refine fE.s ?_
        show fE (kY (some (.ret _)) _) (kY (some (.ret _)) _) _
        rw[thn_ret,thn_ret]
        have h1:∀ j,j<d'.length→j≠0→(d'.getD j []).length=1:=fun j hj _=>by
          have h2:=uD hF' hj;have h3:(d'.getD j []).length≤1:=b5 hv _ (by rw[List.getD_eq_getElem?_getD,List.getElem?_eq_getElem hj];exact List.getElem_mem hj);have h4:=List.length_pos_iff.2 h2
          omega
        have hm0:=sF (uD hF' (i:=0) (by omega));have hsol:=xMe (i:=0) hu hC (by omega) hrg' hF' hS' (by omega) h1 hm0
        have h00:(d'.getD 0 []).length=1:=by
          have h3:(d'.getD 0 []).length≤1:=b5 hv _ (by rw[List.getD_eq_getElem?_getD,List.getElem?_eq_getElem (by omega)];exact List.getElem_mem _);have h4:=List.length_pos_iff.2 (uD hF' (i:=0) (by omega))
          omega
        have hself:d'.set 0 [(d'.getD 0 []).getD 0 0]=d':=by
          apply List.ext_getElem?
          intro k
          by_cases hk:k=0
          · subst hk
            rw[List.getElem?_set_self (by omega)]
            have h5:d'[0]?=some (d'.getD 0 []):=by rw[List.getD_eq_getElem?_getD,List.getElem?_eq_getElem (by omega)];rfl
            rw[h5];generalize d'.getD 0 []=e at h00
            match e,h00 with
            | [z],_=>rfl
          · rw[List.getElem?_set_ne (fun e=>hk e.symm)]
        rw[hself] at hsol
        have hfit:Fit d' (hdD d'):=by have:=xOo (i:=0) (a:=(d'.getD 0 []).getD 0 0) hF';rwa [hself] at this
        exact fE.s ⟨rfl,rfl,rfl,rfl,⟨rfl,rfl⟩,(fun h=>nomatch h),by simp only;omega,(fun _=>by show t+1≤st+prd dom;omega),(fun h=>nomatch h),by simp only;omega,by simp;omega,(fun h=>nomatch h),fun _=>(by show Sol x y ([]++hdD d')∧Fit dom ([]++hdD d');rw[List.nil_append];exact⟨hsol,xMm (by omega) hfit hsub'⟩),(fun h=>nomatch h),(fun h=>nomatch h)⟩
      · rw[if_neg (by simpa using hv),if_neg (by simpa using hv)]
        obtain⟨q,q1,q2,q3⟩:=b4 (by omega);have hqm:q∈d':=List.mem_of_getElem? q2;have hq0:ix q 0=some (q.getD 0 0):=nB (k:=0) (by omega);obtain⟨a,ha⟩:∃ a,a=q.getD 0 0:=⟨_,rfl⟩
        have haq:a∈q:=by rw[ha];exact sF (hF' q hqm)
        rw[← ha] at hq0;have hap:ap ln' [Line.mk 1 v a 0]=some (ln'++[Line.mk 1 v a 0]):=bS (by simp only[List.length_cons,List.length_nil];omega);have hin:DomOk n 40 (d'.set v.toNat [a]):=hd'ok.set q2 (by simp) (by simp;omega);have hout2:DomOk n 40 (d'.set v.toNat (q.filter (· != a))):=hd'ok.set q2 ((hd'ok.nd q hqm).filter _) (List.length_filter_le _ _);have hvl:=(List.getElem?_eq_some_iff.1 q2).1
        have hqg:d'.getD v.toNat []=q:=by rw[List.getD_eq_getElem?_getD,q2];rfl
        have hra:=hrg' v.toNat a (by rw[hqg];exact haq);obtain⟨p1,p2,p3⟩:=xNj q2 (hd'ok.nd q hqm) haq q3 hF';have hsub1:=sV (w:=[a]) q2 (fun z hz=>by rw[List.mem_singleton.1 hz];exact haq);have hsub2:=sV (w:=q.filter (· != a)) q2 (fun z hz=>(List.mem_filter.1 hz).1);refine fE.l q1 (fE.r q1 (fE.l hq0 (fE.r hq0 (fE.l hap (fE.r hap (fE.l (tL d' hsml (by omega)) (fE.r (xAa d' hsml (by omega)) (fE.l q1 (fE.r q1 ?_)))))))));refine fE.bnd (ih N (t+1) (ln'++[Line.mk 1 v a 0]) (d'.set v.toNat [a]) (xVr hm ht0 ht1) (by omega) (by omega) (by simp only[List.length_append,List.length_singleton];omega) hin (fun i b hb=>hrg' i b (hsub1 i b hb)) (by omega) (by omega)) (fun r r' hE=>?_);obtain⟨b,s2,l2,v2,c2,dd⟩:=r;obtain⟨b',s2',l2',v2',o2,dd'⟩:=r';obtain⟨E1,E2,E3,E4,E5,E6,E7,E8,E8f,E9,E10,E11,E12,El,E13⟩:=hE;simp only at E1 E2 E3 E4 E5 E6 E7 E8 E8f E9 E10 E11 E12 El E13 ⊢;subst E1 E2 E3 E4
        cases b with
        | false=>
          simp only[Bool.not_false,if_true];refine fE.s ?_
          show fE (kY (some (.ret _)) _) (kY (some (.ret _)) _) _
          rw[thn_ret,thn_ret];have E8':=E8 rfl;refine fE.s ⟨rfl,rfl,rfl,rfl,E5,(fun h=>nomatch h),by simp only;omega,(fun _=>by simp only;omega),(fun h=>nomatch h),E9,E10,(fun h=>nomatch h),fun _=>⟨(E12 rfl).1,?_⟩,(fun h=>nomatch h),(fun h=>nomatch h)⟩;exact xMm (by rw[List.length_set];omega) (E12 rfl).2 (fun i b hb=>hsub' i b (hsub1 i b hb))
        | true=>
          simp only[Bool.not_true,Bool.false_eq_true,if_false];obtain⟨rfl,rfl⟩:=E5;have hv2:=E6 rfl;subst hv2;have hql:=hsml q hqm;have hqt:=fA hqm;have hno:=E11 rfl
          have hP1:2≤prd (d'.set v.toNat [a]):=by
            rcases Nat.lt_or_ge (prd (d'.set v.toNat [a])) 2 with h | h
            · exfalso
              have h1:=xLo (D:=d'.set v.toNat [a]) (by omega);refine hno _ (xMe (i:=v.toNat) (a:=a) hu hC (by omega) hrg' hF' hS' hvl (fun j hj hne=>?_) (by rw[hqg];exact haq)) (xOo hF')
              have h2:=h1 (d'.getD j []) (by
                have h3:(d'.set v.toNat [a])[j]?=some (d'.getD j []):=by rw[List.getElem?_set_ne (fun e=>hne e.symm),List.getD_eq_getElem?_getD,List.getElem?_eq_getElem hj];rfl
                exact List.mem_of_getElem? h3)
              exact h2
            · exact h
          have E8':=E8f rfl
          have hs2':s2'+1≤t+1+prd (d'.set v.toNat [a]):=by
            rcases E8' with h | h
            · omega
            · omega
          refine fE.l (sK q a hql (by omega)) (fE.r (nC q a hql) (fE.s ?_));obtain⟨sg2,i2',d2,hb2,hi2v,hd2,hl2⟩:=E13 rfl;have hll4:=xWk (El rfl) hP1;rw[List.length_append,List.length_singleton,hln'e] at hll4;refine⟨⟨_,_,_,rfl,rfl,by omega,by omega,E9,hout2,by omega,Or.inr (by omega),inv3 hll3 hrle p1 hll4,(fun i b hb=>hsub' i b (hsub2 i b hb)),fun vs h1 h2=>?_,sg++([Line.mk 1 v a 0]++(sg2++[Line.mk 3 i2' 0 0])),Rn.pair hbal ⟨by omega,xMg hvl hd'len hnv⟩ q2 haq q3 hb2 hi2v hd2,?_⟩,by simp only;omega⟩
          · have h3:=hkeep' vs h1 h2
            refine xAc h3 (List.mem_filter.2 ⟨?_,?_⟩)
            · have h4:=h3 v.toNat hvl;rwa [hqg] at h4
            · rw[bne_iff_ne]
              intro e;exact hno vs h1 (xAc h3 (by rw[e];simp))
          · rw[hl2,hlns]
            simp only[List.append_assoc]
end Go.Proofs.YtfmnjkpddljdcaaGreatDoor
namespace Go.Proofs.YtfmnjkpddljdcaaGreatDoor
set_option linter.unusedVariables false
set_option linter.unusedSimpArgs false
theorem xEb {ρ:Type} {T:Int} {f:Nat→List (List Int)→Option (Ctl (List (List Int)) ρ)} {d:List Int} (hf:∀ k s,s.length≤1000→f k s=some (.go (s++[d]))):∀ (m k:Nat) (s:List (List Int)),s.length+m≤1000→eJ f m k s=some (.nx (s++List.replicate m d))
  | 0,k,s,h=>by simp [eJ]
  | m+1,k,s,h=>by
    rw[sY (hf k s (by omega)),xEb (T:=T) hf m (k+1) _ (by simp;omega),List.replicate_succ,List.append_assoc]
    rfl
theorem xAz {T:Nat} {t:Template} {y:Instance} (hu:TV T t) (hv:1≤y.vars∧y.vars≤10):cN t y=some (List.replicate y.vars.toNat (nL 0 T)):=by
  have hT:=hu.t
  unfold cN
  rw[xEb (T:=0) (d:=nL 0 T) (fun k s hs=>by
    rw[hu.s,xSu (by omega) (by omega),bnd_s,bS (by simp only[List.length_cons,List.length_nil];omega),bnd_s]) y.vars.toNat 0 [] (by simp only[List.length_nil];omega),thn_nx,List.nil_append]
theorem xGf {T:Nat} {t:Template} {y:Instance} (hu:TV T t) (hv:1≤y.vars∧y.vars≤10):fL t y=some (List.replicate y.vars.toNat (nL 0 T)):=by
  have hT:=hu.t
  unfold fL
  rw[xEb (T:=0) (d:=nL 0 T) (fun k s hs=>by
    rw[hu.s,xOy (by omega),bnd_s,bS (by simp only[List.length_cons,List.length_nil];omega),bnd_s]) y.vars.toNat 0 [] (by simp only[List.length_nil];omega),thn_nx,List.nil_append]
theorem xSe (m:Nat) (d:List Int):tot (List.replicate m d)=m*d.length:=by
  unfold tot
  induction m with
  | zero=>simp
  | succ m ih=>rw[List.replicate_succ,List.map_cons,List.sum_cons,ih,Nat.succ_mul,Nat.add_comm]
theorem xKt (V:Int) (m:Nat):(nL V m).Nodup:=by
  unfold nL
  refine List.Pairwise.map _ (fun a b h=>?_) (List.nodup_range (n:=m));intro h2;exact h (by omega)
theorem tY {m:Nat} {a:Int}:a∈nL 0 m↔0≤a∧a<(m:Int):=by
  unfold nL
  rw[List.mem_map]
  constructor
  · rintro ⟨i,hi,rfl⟩
    rw[List.mem_range] at hi
    omega
  · rintro ⟨h1,h2⟩
    exact⟨a.toNat,by rw[List.mem_range];omega,by omega⟩
theorem xQz {T:Nat} {t:Template} {y:Instance} (hu:TV T t) {c:Con} (h:CV t y.vars c) (hv:1≤y.vars):ConOk t c y.vars.toNat:=by
  obtain⟨h1,r,r0,r1,r2,r3⟩:=h;obtain⟨n,e,n1,n4,_,hm⟩:=hu.r r r2;exact⟨⟨r,dX r0 r1,fun a ha=>by have:=(rR.1 (hm a ha)).1;omega⟩,fun v hv=>by have:=h1 v hv;omega,by omega⟩
theorem xVo {T:Nat} {t:Template} {n:Int} (hu:TV T t) {c:Con} (h:CV t n c):CW t n c:=by
  obtain⟨h1,r,r0,r1,r2,r3⟩:=h;obtain⟨m,e,n1,n4,_,hm⟩:=hu.r r r2;exact⟨⟨h1,r,r0,r1,r2,r3⟩,by omega⟩
structure Ri (x:Template) (y:Instance):Prop where
  small:xAv x
  val:wL x y=true
  five:y.vars≤5
section
variable {x:Template} {y:Instance}
theorem Ri.temp (h:Ri x y):tR x=true:=by
  have:=h.val
  unfold wL at this
  rw[Bool.and_eq_true] at this;exact this.1
theorem Ri.tv (h:Ri x y):TV x.size.toNat x:=xHv h.small h.temp
theorem Ri.vars (h:Ri x y):1≤y.vars∧y.vars≤10:=(xCk h.val).1
theorem Ri.cons (h:Ri x y):y.cons.length≤24:=(xCk h.val).2.1
theorem Ri.cv (h:Ri x y):∀ c∈y.cons,CV x y.vars c:=(xCk h.val).2.2
theorem Ri.cok (h:Ri x y):∀ c∈y.cons,ConOk x c y.vars.toNat:=fun c hc=>xQz h.tv (h.cv c hc) h.vars.1
theorem Ri.size (h:Ri x y):1≤x.size∧x.size≤4:=by
  have h1:=h.tv.t;have h2:=h.tv.s
  omega
theorem Ri.inst (h:Ri x y):gQ x y=some true∧aS x y=some true:=by
  have:=xHz (t:=x) (x:=y) h.small;rw[h.val] at this;exact this
theorem Ri.budget (h:Ri x y):rP x y 2000=some 0∧jA x y 2000=some 0:=by
  obtain⟨h1,h2⟩:=h.inst
  unfold rP jA
  rw[show(Template.mk x.size x.rels)=x from rfl,show(Instance.mk y.vars y.cons)=y from rfl,h1,h2,bnd_s,bnd_s,gE,mJ];exact⟨rfl,rfl⟩
def dV (x:Template) (y:Instance):List (List Int):=List.replicate y.vars.toNat (nL 0 x.size.toNat)
theorem xAf (x:Template) (y:Instance) {i:Nat} (h:i<y.vars.toNat):(dV x y).getD i []=nL 0 x.size.toNat:=by
  unfold dV
  rw[List.getD_eq_getElem?_getD,List.getElem?_replicate,if_pos h];rfl
theorem xIa (h:0≤x.size):Rg x (dV x y):=fun i a ha=>by
  by_cases hi:i<y.vars.toNat
  · rw[xAf x y hi,tY] at ha;omega
  · unfold dV at ha
    rw[List.getD_eq_getElem?_getD,List.getElem?_replicate,if_neg hi] at ha
    cases ha
theorem yZ (h:Ri x y):DomOk y.vars.toNat 40 (dV x y):=by
  have hs:=h.size;have hv:=h.vars;refine⟨by simp [dV],fun d hd=>by rw[List.eq_of_mem_replicate hd];exact xKt _ _,?_⟩
  unfold dV
  rw[xSe,yO];have:y.vars.toNat*x.size.toNat≤10*4:=Nat.mul_le_mul (by omega) (by omega)
  omega
theorem xNm (h:Ri x y):prd (dV x y)≤1024:=by
  have hs:=h.size;have hv:=h.vars;have h5:=h.five
  unfold dV
  rw[xSq,yO];have h1:x.size.toNat ^ y.vars.toNat≤4 ^ y.vars.toNat:=Nat.pow_le_pow_left (by omega) _;have h2:4 ^ y.vars.toNat≤4 ^ 5:=Nat.pow_le_pow_right (by omega) (by omega)
  omega
theorem xNf (h:Ri x y) {vs:List Int} (hS:Sol x y vs):Fit (dV x y) vs:=fun i hi=>by
  have hl:(dV x y).length=y.vars.toNat:=(yZ h).len;have hs:=h.size;rw[xAf x y (by omega),tY];have h1:=hS.1
  have hm:vs.getD i 0∈vs:=by rw[List.getD_eq_getElem?_getD,List.getElem?_eq_getElem (by omega)];exact List.getElem_mem _
  have:=hS.2.1 _ hm
  omega
end
end Go.Proofs.YtfmnjkpddljdcaaGreatDoor
namespace Go.Proofs.YtfmnjkpddljdcaaGreatDoor
set_option linter.unusedVariables false
set_option linter.unusedSimpArgs false
theorem xEq {α:Type} {b:Nat→α→Unit→Option (Ctl Unit Bool)} {q:Nat→Bool}:∀ (l:List α) (k:Nat),(∀ j x,l[j]?=some x→b (k+j) x ()=some (if q (k+j) then .ret true else .go ()))→∀ p,p<l.length→q (k+p)=true→qW b l k ()=some (.ret true)
  | [],k,h,p,hp,hq=>by simp at hp
  | x::l,k,h,p,hp,hq=>by
    have h0:=h 0 x rfl;rw[Nat.add_zero] at h0
    by_cases hk:q k=true
    · rw[if_pos hk] at h0;exact jL h0
    · rw[if_neg hk] at h0
      rw[aJ h0]
      cases p with
      | zero=>exact absurd hq hk
      | succ p=>exact xEq l (k+1) (fun j y hj=>by rw[Nat.add_assoc,Nat.add_comm 1 j];exact h (j+1) y hj) p (by simpa using hp) (by rw[Nat.add_assoc,Nat.add_comm 1 p];exact hq)
section
variable {x:Template} {y:Instance}
theorem xKe (h:Ri x y) {D:List (List Int)} {s:ArcStep} (hl:D.length=y.vars.toNat) (hs:xGa x y D s):cS x y D s=some true:=by
  obtain⟨⟨v0,v1⟩,hv,c0,c,p,hc,hp,hb⟩:=hs;have hvs:=h.vars;have hcl:=h.cons;have hci:=(List.getElem?_eq_some_iff.1 hc).1;have hcok:=h.cok c (List.mem_of_getElem? hc)
  unfold cS
  have e1:(decide (0≤s.var) && decide (s.var≤y.vars - 1))=true:=by simp;omega
  have e2:(decide (0≤s.con) && decide (s.con≤(y.cons.length:Int) - 1))=true:=by simp;omega
  have e3:(D.getD s.var.toNat []).any (· == s.value)=true:=List.any_eq_true.2 ⟨s.value,hv,by simp⟩;rw[kI (by omega) (by omega),bnd_s,gE,bnd_s,e1,Bool.not_true,if_neg (by simp),kI (by omega) (by omega),bnd_s,gE,bnd_s,e2,Bool.not_true,if_neg (by simp),ixD v0 (by omega),bnd_s,tN,bnd_s,e3,Bool.not_true,thn_nx,if_neg (by simp),dX c0 hc,bnd_s];rw[xEq (q:=fun j=>(c.scope.getD j 0==s.var) && !rM x c D j s.value) c.scope 0 (fun j z hj=>?_) p (List.getElem?_eq_some_iff.1 hp).1 (by rw[Nat.zero_add,List.getD_eq_getElem?_getD,hp,hb];simp),thn_ret];rw[Nat.zero_add,List.getD_eq_getElem?_getD,hj,Option.getD_some];obtain⟨h1,_⟩:=wO (N:=10) (dom:=D) (p:=j) s.value (by omega) (hl.symm ▸ hcok) (List.getElem?_eq_some_iff.1 hj).1
  by_cases he:(z==s.var)=true
  · have h1':bO (Template.mk x.size x.rels) (Con.mk c.rel c.scope) D (j:Int) s.value=some (rM x c D j s.value):=h1
    simp only[he,if_true,h1',bnd_s,thn_nx,Bool.true_and]
    cases rM x c D j s.value<;>rfl
  · have he':(z==s.var)=false:=by simpa using he
    simp only[he',Bool.false_eq_true,if_false,thn_nx,Bool.false_and]
theorem sJ {α:Type} (S:List α) (D:α):ix (S++[D]) (S.length:Int)=some D:=dX (by omega) (by simp)
theorem xAe {α:Type} (S:List α) (D E:α):(S++[D]).set ((S.length:Int)).toNat E=S++[E]:=by simp
theorem xGx {α:Type} (S:List α) (D:α):sl (S++[D]) 0 (S.length:Int)=some S:=by
  unfold sl
  rw[if_pos (by simp;omega)]
  simp
theorem xUr {v vars:Int} (h:0≤v∧v<vars):(decide (0≤v) && decide (v≤vars - 1))=true:=by simp;omega
theorem xCl {N:Nat} {S:List (List (List Int))} {D:List (List Int)} {C:List Literal} {k v a c:Int} (hv:0≤v∧v<y.vars) (hy:y.vars≤10) (hS:S.length≤1000000) :
    zP N x.size x.rels y.vars y.cons (S++[D]) C (Line.mk k v a c)=(if (k==1) then
   kY (σ:=Bool) (
    xY (ix D v) fun z62=>
    xY (zQ z62 a) fun z68=>
    if (!z68) then some (.nx true) else some (.nx (decide ((z62.length:Int)<2)))) fun s61=>
   if s61 then
    some (false,(S++[D]),C)
   else
    xY (eO D) fun z77=>
    xY (ix z77 v) fun z84=>
    xY (ap (S++[D]) ([(z77.set (v).toNat ([a]))])) fun z92=>
    xY (ap C ([(Literal.mk v a)])) fun z107=>
    some (true,z92,z107)
  else
   if (k==2) then
    xY (cS (Template.mk x.size x.rels) (Instance.mk y.vars y.cons) D (ArcStep.mk v a c)) fun z219=>
    if (!z219) then
     some (false,(S++[D]),C)
    else
     xY (ix D v) fun z222=>
     xY (bT N z222 a) fun z228=>
     some (true,((S++[D]).set ((S.length:Int)).toNat (D.set (v).toNat z228)),C)
   else
    if (k==3) then
     xY (ix D v) fun z260=>
     if (decide (0<(z260.length:Int))) then
      some (false,(S++[D]),C)
     else
      xY (ix C (S.length:Int)) fun z268=>
      xY (sl (S++[D]) 0 (S.length:Int)) fun z286=>
      xY (sl C 0 (S.length:Int)) fun z290=>
      if (decide (0<(S.length:Int))) then
       xY (ck ((S.length:Int) - 1)) fun z326=>
       xY (ix z286 z326) fun z328=>
       xY (ix z328 z268.var) fun z337=>
       xY (bT N z337 z268.value) fun z343=>
       some (true,(z286.set (z326).toNat (z328.set (z268.var).toNat z343)),z290)
      else
       some (true,z286,z290)
    else
     some (false,(S++[D]),C)):=by
  unfold zP
  have hl:(((S++[D]).length:Int) - 1)=(S.length:Int):=by simp
  rw[hl,kI (by omega) (by omega),bnd_s,if_neg (by simp),kI (by omega) (by omega),bnd_s,gE,bnd_s,xUr hv,Bool.not_true,thn_nx,if_neg (by simp),sJ,bnd_s]
theorem xQm {n:Nat} {D:List (List Int)} (h:DomOk n 40 D) (i:Nat):(D.getD i []).length≤40:=by
  by_cases hi:i<D.length
  · have h1:D.getD i []∈D:=by rw[List.getD_eq_getElem?_getD,List.getElem?_eq_getElem hi];exact List.getElem_mem hi
    have:=fA h1;have:=h.le
    omega
  · rw[List.getD_eq_getElem?_getD,List.getElem?_eq_none (by omega)];simp
theorem xRa (h:Ri x y) {N:Nat} (hN:100≤N) {S:List (List (List Int))} {D:List (List Int)} {C:List Literal} {s:ArcStep} (hS:S.length≤1000000) (hD:DomOk y.vars.toNat 40 D) (hs:xGa x y D s) :
    zP N x.size x.rels y.vars y.cons (S++[D]) C (Line.mk 2 s.var s.value s.con)=some (true,S++[xFo D s],C):=by
  have hvs:=h.vars;have hl:=hD.len;have hg:=xQm hD s.var.toNat;have e1:cS (Template.mk x.size x.rels) (Instance.mk y.vars y.cons) D (ArcStep.mk s.var s.value s.con)=some true:=xKe h hl hs;have hv:=hs.1;rw[xCl hv (by omega) hS,if_neg (by decide),if_pos (by decide),e1,bnd_s,if_neg (by simp),ixD hv.1 (by omega),bnd_s,sK _ _ (by omega) (by omega),bnd_s,xAe]
  rfl
theorem xJi (h:Ri x y) {N:Nat} {S:List (List (List Int))} {D:List (List Int)} {C:List Literal} {v a:Int} {q:List Int} (hS:S.length≤1000000) (hC:C.length≤1000000) (hD:DomOk y.vars.toNat 40 D) (hv:0≤v∧v<y.vars) (hq:D[v.toNat]?=some q) (ha:a∈q) (h2:2≤q.length) :
    zP N x.size x.rels y.vars y.cons (S++[D]) C (Line.mk 1 v a 0)=some (true,(S++[D])++[D.set v.toNat [a]],C++[Literal.mk v a]):=by
  have hvs:=h.vars;have hl:=hD.len;have hle:=hD.le;have e1:q.any (· == a)=true:=List.any_eq_true.2 ⟨a,ha,by simp⟩
  have e2:decide ((q.length:Int)<2)=false:=by simp;omega
  rw[xCl hv (by omega) hS,if_pos (by decide),dX hv.1 hq,bnd_s,tN,bnd_s,e1,Bool.not_true,if_neg (by simp),e2,thn_nx,if_neg (by simp),tL D (fun d hd=>by have:=fA hd;omega) (by omega),bnd_s,dX hv.1 hq,bnd_s,bS (by simp only[List.length_append,List.length_cons,List.length_nil];omega),bnd_s,bS (by simp only[List.length_cons,List.length_nil];omega),bnd_s]
theorem xKd (h:Ri x y) {N:Nat} (hN:100≤N) {S:List (List (List Int))} {D0 D:List (List Int)} {C:List Literal} {l:Literal} {i:Int} {q:List Int} (hS:S.length≤100000) (hC:C.length=S.length+1) (hD:DomOk y.vars.toNat 40 D0) (hi:0≤i∧i<y.vars) (hd:D[i.toNat]?=some []) (hl:0≤l.var) (hq:D0[l.var.toNat]?=some q) :
    zP N x.size x.rels y.vars y.cons ((S++[D0])++[D]) (C++[l]) (Line.mk 3 i 0 0)=some (true,S++[D0.set l.var.toNat (q.filter (· != l.value))],C):=by
  have hvs:=h.vars;have hle:=hD.le;have hqt:=fA (List.mem_of_getElem? hq)
  have hn:((S++[D0]).length:Int)=(C.length:Int):=by rw[hC];simp
  have hn2:((S++[D0]).length:Int) - 1=(S.length:Int):=by simp
  rw[xCl hi (by omega) (by simp;omega),if_neg (by decide),if_neg (by decide),if_pos (by decide),dX hi.1 hd,bnd_s,if_neg (by simp),xGx,hn2,hn,sJ,bnd_s,bnd_s,xGx,bnd_s,if_pos (by simp;omega),kI (by omega) (by omega),bnd_s,sJ,bnd_s,dX hl hq,bnd_s,sK _ _ (by omega) (by omega),bnd_s,xAe]
theorem xQy (h:Ri x y) {N:Nat} {D:List (List Int)} {l:Literal} {i:Int} (hi:0≤i∧i<y.vars) (hd:D[i.toNat]?=some []) :
    zP N x.size x.rels y.vars y.cons [D] [l] (Line.mk 3 i 0 0)=some (true,[],[]):=by
  have hvs:=h.vars;have:=xCl (x:=x) (y:=y) (N:=N) (S:=[]) (D:=D) (C:=[l]) (k:=3) (a:=0) (c:=0) hi (by omega) (by simp);rw[List.nil_append] at this;rw[this,if_neg (by decide),if_neg (by decide),if_pos (by decide),dX hi.1 hd,bnd_s,if_neg (by simp)]
  rfl
def yB (N : Nat) (x : Template) (y : Instance) : Nat → Line → (List (List (List Int))) × (List Literal) → Option (Ctl ((List (List (List Int))) × (List Literal)) ((Int × (List Rel) × Int × (List Con) × (List (List (List Int))) × (List Literal)) × Int × Int)) := fun (k103 : Nat) (x105 : Line) (s : (List (List (List Int))) × (List Literal)) =>
      match s with
      | (s91,s94)=>
      xY (zP N x.size x.rels y.vars y.cons s91 s94 (Line.mk x105.kind x105.var x105.value x105.con)) fun z118=>
      if (!z118.1) then
       some (.ret ((0,[],0,[],[],[]),(k103:Int),8))
      else
       some (.go (z118.2.1,z118.2.2))
theorem xUp {N k:Nat} {l:Line} {A A':List (List (List Int))} {C C':List Literal} (h:zP N x.size x.rels y.vars y.cons A C l=some (true,A',C')):yB N x y k l (A,C)=some (.go (A',C')):=by
  have h':zP N x.size x.rels y.vars y.cons A C (Line.mk l.kind l.var l.value l.con)=some (true,A',C'):=h
  unfold yB
  simp only[h',bnd_s,Bool.not_true,Bool.false_eq_true,if_false]
theorem xHu (h:Ri x y) {N:Nat} {L:List Line} (hL:L.length≤4000) {A:List (List (List Int))} {C:List Literal} (hr:qW (yB N x y) L 0 ([dV x y],[Literal.mk 0 0])=some (.nx (A,C))):cW N x y L=some ((x.size,x.rels,y.vars,y.cons,A,C),0,0):=by
  have hv:=h.vars;have d1:cN x y=some (dV x y):=xAz h.tv hv;have hi:=h.inst.2
  unfold cW
  have e1:(Template.mk x.size x.rels)=x:=rfl;have e2:(Instance.mk y.vars y.cons)=y:=rfl
  unfold fH
  rw[e1,e2,hi,bnd_s,if_neg (by simp),if_neg (by simp;omega),d1,bnd_s,bnd_s]
  show kY (qW (yB N x y) L 0 ([dV x y],[Literal.mk 0 0])) _=_
  rw[hr,thn_nx]
end
end Go.Proofs.YtfmnjkpddljdcaaGreatDoor
namespace Go.Proofs.YtfmnjkpddljdcaaGreatDoor
set_option linter.unusedVariables false
set_option linter.unusedSimpArgs false
set_option maxRecDepth 100000
theorem xJq {vs args:List Int} {n:Nat} (h:∀ i∈args,0≤i∧i<(n:Int)):atV (vs.take n) args=atV vs args:=by
  unfold atV
  apply List.map_congr_left
  intro i hi;have:=h i hi;rw[List.getD_eq_getElem?_getD,List.getD_eq_getElem?_getD,List.getElem?_take,if_pos (by omega)]
theorem xBg {u:Template} {a:Atom} {vs ws:List Int} (h:atV vs a.args=atV ws a.args):uI u a vs=uI u a ws:=by unfold uI;rw[h]
theorem AV.rg {T:Nat} {u:Template} {n:Nat} {a:Atom} (hu:TV T u) (h:AV u n a):0≤mx a.args∧mx a.args<(n:Int)∧∀ i∈a.args,0≤i∧i≤mx a.args:=by
  have hl:=h.len hu
  have hn:(0:Int)<n:=by
    cases e:a.args with
    | nil=>rw[e] at hl;simp at hl
    | cons i r=>have:=h.1 i (by rw[e];simp);omega
  have:=xTm h.1 hn;exact⟨this.1,this.2,fun i hi=>⟨(h.1 i hi).1,(xPc (l:=a.args) (s:=0)).2 i hi⟩⟩
theorem xSi {T:Nat} {u:Template} {f:Formula} {Y:List Int} (hu:TV T u) (ha:∀ a∈f.atoms,AV u f.vars.toNat a) (hA:∀ a∈f.atoms,uI u a Y=true) {n:Nat} (h1:1≤n) (h2:n≤Y.length):jS u f (Y.take n)=true:=by
  unfold jS
  rw[List.all_eq_true];intro a hm;obtain⟨h3,h4,h5⟩:=(ha a hm).rg hu
  have hl:((Y.take n).length:Int)=n:=by rw[List.length_take];omega
  rw[hl]
  by_cases e:mx a.args=(n:Int) - 1
  · rw[decide_eq_true e,xBg (xJq (fun i hi=>by have:=h5 i hi;omega)),hA a hm]
    rfl
  · rw[decide_eq_false e]
    rfl
def yS (u:Template) (f:Formula):Nat→List Int→List (List Int)
  | 0,vs=>[vs]
  | d+1,vs=>(List.range' 0 u.size.toNat).flatMap fun(a:Nat)=>if jS u f (vs++[(a:Int)]) then yS u f d (vs++[(a:Int)]) else []
theorem yL {u:Template} {f:Formula}:∀ (d:Nat) (vs ws:List Int),ws∈yS u f d vs→ws.length=vs.length+d∧ws.take vs.length=vs∧(∀ n,vs.length<n→n≤vs.length+d→jS u f (ws.take n)=true)∧∀ x∈ws.drop vs.length,0≤x∧x<(u.size.toNat:Int)
  | 0,vs,ws,h=>by
    obtain rfl:=List.mem_singleton.1 h;exact⟨rfl,List.take_of_length_le (Nat.le_refl _),fun n h1 h2=>by omega,fun x hx=>by rw[List.drop_of_length_le (Nat.le_refl _)] at hx;cases hx⟩
  | d+1,vs,ws,h=>by
    rw[yS,List.mem_flatMap] at h;obtain⟨a,ha,h⟩:=h;have ha':=(List.mem_range'_1.1 ha).2
    split at h
    · rename_i hs
      obtain⟨h1,h2,h3,h4⟩:=yL d _ ws h
      have hl:(vs++[(a:Int)]).length=vs.length+1:=by simp
      rw[hl] at h1 h2 h3 h4
      have e2:ws.take vs.length=vs:=by
        have:=congrArg (List.take vs.length) h2;rw[List.take_take,Nat.min_eq_left (by omega),List.take_append_of_le_length (Nat.le_refl _),List.take_of_length_le (Nat.le_refl _)] at this;exact this
      refine⟨by omega,e2,fun n h5 h6=>?_,fun x hx=>?_⟩
      · by_cases e:n=vs.length+1
        · rw[e,h2];exact hs
        · exact h3 n (by omega) (by omega)
      · rw[List.drop_eq_getElem_cons (by omega)] at hx
        rcases List.mem_cons.1 hx with rfl | hx
        · have e3:ws[vs.length]?=some (a:Int):=by
            have:=congrArg (fun l=>l[vs.length]?) h2;simp only[List.getElem?_take,Nat.lt_succ_self,if_true] at this;rw[this]
            simp
          rw[List.getElem?_eq_getElem (by omega)] at e3;rw[Option.some.inj e3]
          omega
        · exact h4 x hx
    · cases h
theorem xFt {u:Template} {f:Formula} {Y:List Int} (hY:∀ n,1≤n→n≤Y.length→jS u f (Y.take n)=true) (hr:∀ x∈Y,0≤x∧x<(u.size.toNat:Int)):∀ (d k:Nat),k+d=Y.length→Y∈yS u f d (Y.take k)
  | 0,k,h=>by rw[yS,List.take_of_length_le (by omega)];simp
  | d+1,k,hk=>by
    have hlt:k<Y.length:=by omega
    have e:Y.take k++[Y[k]]=Y.take (k+1):=by rw[List.take_add_one,List.getElem?_eq_getElem hlt];rfl
    have hx:=hr _ (List.getElem_mem hlt);rw[yS,List.mem_flatMap];refine⟨Y[k].toNat,List.mem_range'_1.2 ⟨by omega,by omega⟩,?_⟩;rw[Int.toNat_of_nonneg hx.1,e,if_pos (hY (k+1) (by omega) (by omega))];exact xFt hY hr d (k+1) (by omega)
theorem xJx {u:Template} {f:Formula}:∀ (d:Nat) (vs:List Int),(yS u f d vs).Nodup
  | 0,vs=>by rw[yS];simp
  | d+1,vs=>by
    rw[yS]
    unfold List.Nodup
    rw[List.pairwise_flatMap];refine⟨fun a _=>?_,?_⟩
    · split
      · exact xJx d _
      · exact List.Pairwise.nil
    · refine(List.pairwise_lt_range' (s:=0) (n:=u.size.toNat)).imp (fun {a b} hab x hx y hy=>?_)
      split at hx
      · split at hy
        · intro e
          subst e;have h1:=(yL d _ _ hx).2.1;have h2:=(yL d _ _ hy).2.1
          have hl:∀ a:Nat,(vs++[(a:Int)]).length=vs.length+1:=fun a=>by simp
          rw[hl] at h1 h2;rw[h1] at h2;have:=List.append_cancel_left h2
          simp at this
          omega
        · cases hy
      · cases hx
section
variable {x:Template} {y:Instance}
theorem Ri.cw (h:Ri x y):∀ c∈y.cons,CW x y.vars c:=fun c hc=>xVo h.tv (h.cv c hc)
theorem Ri.fx (h:Ri x y):FX x (fY 1 y):=by
  have hv:=h.vars;exact xWc h.cw (by omega) (by omega) h.cons
def xSo (x:Template) (y:Instance):List (List Int):=yS x (fY 1 y) y.vars.toNat []
theorem xTe (h:Ri x y) {o:List Int} (ho:o∈xSo x y):Sol x y o:=by
  obtain⟨h1,h2,h3,h4⟩:=yL _ _ _ ho;have hs:=h.size;rw[List.length_nil,Nat.zero_add] at h1 h3;rw[List.length_nil,List.drop_zero] at h4;refine⟨by omega,fun a ha=>by have:=h4 a ha;omega,fun c hc=>?_⟩;have hw:=h.cw c hc;have hA:AV x y.vars.toNat ⟨c.rel,c.scope⟩:=⟨fun i hi=>by have:=hw.1.1 i hi;show 0≤i∧i<(y.vars.toNat:Int);omega,.inr hw.1.2⟩;obtain⟨k3,k4,k5⟩:=hA.rg h.tv;rw[← xLw hw];have hs:=h3 ((mx c.scope).toNat+1) (by simp) (by have:mx c.scope<(y.vars.toNat:Int):=k4;omega)
  unfold jS at hs
  have hs2:=List.all_eq_true.1 hs ⟨c.rel,c.scope⟩ (List.mem_map.2 ⟨c,hc,rfl⟩);have k3':0≤mx c.scope:=k3;have k4':mx c.scope<(y.vars.toNat:Int):=k4
  have hl2:((o.take ((mx c.scope).toNat+1)).length:Int) - 1=mx c.scope:=by rw[List.length_take];omega
  rw[hl2,decide_eq_true (show mx (Atom.mk c.rel c.scope).args=mx c.scope from rfl),Bool.not_true,Bool.false_or,xBg (xJq (fun i hi=>by have:=k5 i hi;have k6:mx (Atom.mk c.rel c.scope).args=mx c.scope:=rfl;omega))] at hs2;exact hs2
theorem xTg (h:Ri x y) {vs:List Int} (hS:Sol x y vs):vs∈xSo x y:=by
  have hl:=hS.1
  have:=xFt (u:=x) (f:=fY 1 y) (Y:=vs) (fun n h1 h2=>xSi h.tv (fun a ha=>by
    obtain⟨c,hc,rfl⟩:=List.mem_map.1 ha;have hw:=h.cw c hc
    exact⟨fun i hi=>by have:=hw.1.1 i hi;show 0≤i∧i<(y.vars.toNat:Int);omega,.inr hw.1.2⟩) (fun a ha=>by
    obtain⟨c,hc,rfl⟩:=List.mem_map.1 ha;rw[xLw (h.cw c hc)]
    exact hS.2.2 c hc) h1 h2) (fun z hz=>by have:=hS.2.1 z hz;omega) vs.length 0 (by omega)
  rw[hl] at this;exact this
end
theorem xFl {u:Template} {f:Formula}:∀ (d:Nat) (vs:List Int),(mT u f d vs).isSome = !(yS u f d vs).isEmpty
  | 0,vs=>rfl
  | d+1,vs=>by
    rw[mT,yS]
    induction (List.range' 0 u.size.toNat) with
    | nil=>rfl
    | cons a l ih=>
      rw[List.findSome?_cons,List.flatMap_cons]
      have h1:(if jS u f (vs++[(a:Int)]) then mT u f d (vs++[(a:Int)]) else none).isSome = !(if jS u f (vs++[(a:Int)]) then yS u f d (vs++[(a:Int)]) else []).isEmpty:=by
        split
        · exact xFl d _
        · rfl
      revert h1
      generalize (if jS u f (vs++[(a:Int)]) then mT u f d (vs++[(a:Int)]) else none)=q;generalize (if jS u f (vs++[(a:Int)]) then yS u f d (vs++[(a:Int)]) else [])=r;intro h1
      cases q with
      | none=>
        cases r with
        | nil=>exact ih
        | cons _ _=>simp at h1
      | some _=>
        cases r with
        | nil=>simp at h1
        | cons _ _=>rfl
theorem xNs {x:Template} {y:Instance} (h:Ri x y) {N:Nat} (hN:5100≤N):∃ o c,dL N x y=some (o,c)∧((c=0∧∃ vs,Sol x y vs)∨(c=6∧∀ vs,¬ Sol x y vs)):=by
  have hv:=h.vars
  unfold dL
  rw[show(Template.mk x.size x.rels)=x from rfl,show(Instance.mk y.vars y.cons)=y from rfl,h.inst.2,bnd_s,if_neg (by simp),xGq h.tv h.fx,bnd_s,xNn h.tv h.fx (by omega),bnd_s];have he:=xFl (u:=x) (f:=fY 1 y) y.vars.toNat [];have he2:(mT x (fY 1 y) (fY 1 y).vars.toNat []).isSome = !(xSo x y).isEmpty:=he;simp only;rw[he2]
  cases hs:xSo x y with
  | nil=>exact⟨_,_,rfl,.inr ⟨rfl,fun vs hS=>by have:=xTg h hS;rw[hs] at this;cases this⟩⟩
  | cons o L=>exact⟨_,_,rfl,.inl ⟨rfl,o,xTe h (by rw[hs];simp)⟩⟩
end Go.Proofs.YtfmnjkpddljdcaaGreatDoor
namespace Go.Proofs.YtfmnjkpddljdcaaGreatDoor
set_option linter.unusedVariables false
set_option linter.unusedSimpArgs false
section
variable {x:Template} {y:Instance}
theorem xTc (h:Ri x y) {N:Nat} (hN:5100≤N) :
    ∃ st ln vl cd d d',wE N x y (dV x y) 2000=some ((x.size,x.rels,y.vars,y.cons,2000,st,ln,vl,cd),d)∧nJ N x y (dV x y) 2000=some ((x,y,2000,st,ln,vl,false),cd,d')∧(1≤st∧st≤2000)∧((cd=0∧Sol x y vl)∨(cd=6∧vl=[]∧(∀ vs,¬ Sol x y vs)∧ln.length≤3999∧∃ seg i d2,Rn x y (dV x y) seg d2∧(0≤i∧i<y.vars)∧d2[i.toNat]?=some []∧ln=seg++[Line.mk 3 i 0 0]))∧vl.length≤10:=by
  have hv:=h.vars;have hs:=h.size;have hp:=xNm h;obtain⟨⟨rb,st,ln,vl,cd,d⟩,⟨rb',st',ln',vl',ov,d'⟩,h1,h2,E1,E2,E3,E4,E5,E6,E7,E8,E8f,E9,E10,E11,E12,El,E13⟩:=xMy (bud:=2000) h.tv (by omega) rfl (by omega) h.cv h.cok (by omega) 2000 N 0 [] (dV x y) (by omega) (by omega) (by omega) (by simp) (yZ h) (xIa (by omega)) (by omega) (by omega);simp only at E1 E2 E3 E4 E5 E6 E7 E8 E8f E9 E10 E11 E12 El E13;obtain⟨rfl,rfl⟩:=E5;subst E1 E2 E3 E4
  unfold wE nJ
  rw[h1,h2,bnd_s,bnd_s];simp only
  cases rb with
  | true=>
    have hs:=E8f rfl;obtain⟨sg,i,d2,b1,b2,b3,b4⟩:=E13 rfl;have hl:=El rfl;rw[List.length_nil] at hl;refine⟨st',ln',vl',6,d,d',rfl,rfl,by omega,.inr ⟨rfl,E6 rfl,fun vs hS=>E11 rfl vs hS (xNf h hS),by omega,sg,i,d2,b1,b2,b3,by simpa using b4⟩,by omega⟩
  | false=>
    have hs:=E8 rfl;refine⟨st',ln',vl',0,d,d',rfl,rfl,by omega,.inl ⟨rfl,(E12 rfl).1⟩,by omega⟩
theorem xHr (h:Ri x y) {N:Nat} (hN:5100≤N):∃ L rc,eE N x y 2000=some (L,rc)∧(rc=6∨(rc=0∧(∀ vs,¬ Sol x y vs)∧L.length≤3999∧∃ seg i d2,Rn x y (dV x y) seg d2∧(0≤i∧i<y.vars)∧d2[i.toNat]?=some []∧L=seg++[Line.mk 3 i 0 0])):=by
  have hv:=h.vars;obtain⟨b1,b2⟩:=h.budget;have d2:fL x y=some (dV x y):=xGf h.tv hv;obtain⟨st,ln,vl,cd,d,d',e1,e2,e3,e4,e5⟩:=xTc h hN;have ex:(Template.mk x.size x.rels)=x:=rfl;have ey:(Instance.mk y.vars y.cons)=y:=rfl
  unfold eE mP
  rw[ex,ey,b2,bnd_s,if_neg (by simp),d2,bnd_s,e2,bnd_s]
  rcases e4 with ⟨rfl,hS⟩ | ⟨rfl,rfl,hno,hl,hseg⟩
  · exact⟨_,_,rfl,.inl rfl⟩
  · have:decide (4000<(ln.length:Int))=false:=by simp;omega
    simp only[this];exact⟨ln,0,rfl,.inr ⟨rfl,hno,hl,hseg⟩⟩
end
end Go.Proofs.YtfmnjkpddljdcaaGreatDoor
