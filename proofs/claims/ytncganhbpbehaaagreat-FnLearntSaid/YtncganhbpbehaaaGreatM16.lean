import Derived.Test.YtncganhbpbehaaaGreatM72
namespace Go.Proofs.YtncganhbpbehaaaGreat
set_option linter.unusedVariables false
set_option linter.unusedSimpArgs false
theorem xJp (vs sc:List Int):(atV vs sc).length=sc.length:=by unfold atV;exact List.length_map _
theorem xGh {vs sc:List Int} {k:Nat} {v:Int} (h:sc[k]?=some v):(atV vs sc).getD k 0=vs.getD v.toNat 0:=by unfold atV;rw[List.getD_eq_getElem?_getD,List.getElem?_map,h];rfl
theorem xPu (vs sc:List Int):agB sc (atV vs sc)=true:=by
  unfold agB
  rw[Bool.not_eq_true',List.any_eq_false];intro k hk;rw[Bool.not_eq_true,List.any_eq_false];intro q hq;rw[List.mem_range'_1] at hk hq
  unfold agP
  have hkl:sc[k]?=some (sc.getD k 0):=by rw[List.getD_eq_getElem?_getD,List.getElem?_eq_getElem (by omega)];rfl
  have hql:sc[q]?=some (sc.getD q 0):=by rw[List.getD_eq_getElem?_getD,List.getElem?_eq_getElem (by omega)];rfl
  rw[xGh hkl,xGh hql];intro h;simp only[Bool.and_eq_true,beq_iff_eq,bne_iff_ne,ne_eq] at h;exact h.2 (by rw[h.1])
theorem xNs {sc t:List Int} (h:agB sc t=true) {j k:Nat} (hjk:j<k) (hk:k<sc.length) (e:sc.getD k 0=sc.getD j 0):t.getD k 0=t.getD j 0:=by
  unfold agB at h
  rw[Bool.not_eq_true',List.any_eq_false] at h;have h1:=h k (by rw[List.mem_range'_1];omega);rw[Bool.not_eq_true,List.any_eq_false] at h1;have h2:=h1 j (by rw[List.mem_range'_1];omega)
  unfold agP at h2
  simp only[Bool.and_eq_true,beq_iff_eq,bne_iff_ne,ne_eq,not_and,Decidable.not_not] at h2;exact h2 e
theorem xOy {sc t:List Int} (h:agB sc t=true) {j k:Nat} (hj:j<sc.length) (hk:k<sc.length) (e:sc.getD k 0=sc.getD j 0):t.getD k 0=t.getD j 0:=by
  rcases Nat.lt_trichotomy j k with h1 | h1 | h1
  · exact xNs h h1 hk e
  · rw[h1]
  · exact(xNs h h1 hj e.symm).symm
theorem xHu (dom:List (List Int)) (vs:List Int):∀ sc:List Int,(∀ v∈sc,vs.getD v.toNat 0∈dom.getD v.toNat [])→nD dom sc (atV vs sc)=true
  | [],_=>rfl
  | v::sc,h=>by
    have ih:=xHu dom vs sc (fun w hw=>h w (by simp [hw]))
    show((dom.getD v.toNat []).any (· == vs.getD v.toNat 0) && nD dom sc (atV vs sc))=true
    rw[ih,Bool.and_true,List.any_eq_true];exact⟨_,h v (by simp),by simp⟩
theorem xEc (dom:List (List Int)):∀ (sc t:List Int),nD dom sc t=true→∀ (k:Nat) (v a:Int),sc[k]?=some v→t[k]?=some a→a∈dom.getD v.toNat []
  | [],_,_,k,v,a,h1,_=>by simp at h1
  | w::sc,[],_,k,v,a,_,h2=>by simp at h2
  | w::sc,b::t,h,k,v,a,h1,h2=>by
    unfold nD at h
    rw[Bool.and_eq_true] at h
    cases k with
    | zero=>
      simp at h1 h2
      subst h1 h2;obtain⟨z,hz,e⟩:=List.any_eq_true.1 h.1;rw[beq_iff_eq] at e;exact e ▸ hz
    | succ k=>exact xEc dom sc t h.2 k v a (by simpa using h1) (by simpa using h2)
def Sol (t:Template) (y:Instance) (vs:List Int):Prop:=vs.length=y.vars.toNat∧(∀ v∈vs,0≤v∧v<t.size)∧∀ c∈y.cons,sY t vs c=true
def Fit (dom:List (List Int)) (vs:List Int):Prop:=∀ i,i<dom.length→vs.getD i 0∈dom.getD i []
structure Kp (t:Template) (y:Instance) (D0 d:List (List Int)):Prop where
  len:d.length=D0.length
  sub:∀ i a,a∈d.getD i []→a∈D0.getD i []
  sol:∀ vs,Sol t y vs→Fit D0 vs→Fit d vs
theorem Kp.refl (t:Template) (y:Instance) (D:List (List Int)):Kp t y D D:=⟨rfl,fun _ _ h=>h,fun _ _ h=>h⟩
theorem xMj {t:Template} {y:Instance} {c:Con} {vs:List Int} {dom:List (List Int)} {p:Nat} {v:Int} (hC:CV t y.vars c) (hcm:c∈y.cons) (hS:Sol t y vs) (hl:dom.length=y.vars.toNat) (hd:Fit dom vs) (hp:c.scope[p]?=some v):wH t c dom p (vs.getD v.toNat 0)=true:=by
  obtain⟨hsc,r,r0,r1,r2,r3⟩:=hC
  unfold wH
  rw[gN r0 r1,Option.getD_some,List.any_eq_true];have h:=hS.2.2 c hcm
  unfold sY at h
  rw[decide_eq_true_iff,List.getD_eq_getElem?_getD,r1] at h;refine⟨_,h,?_⟩
  unfold uF
  rw[xGh hp,xPu,xHu dom vs c.scope (fun w hw=>hd _ (by have:=hsc w hw;omega))]
  simp
theorem Kp.stay {t:Template} {y:Instance} {D0:List (List Int)} {c:Con} (hl:D0.length=y.vars.toNat) (hC:CV t y.vars c) (hcm:c∈y.cons) (p:Nat) (v:Int) (hp:c.scope[p]?=some v):xLb (Kp t y D0) t c p v:=fun dom a h hb=>by
  have hdl:dom.length=y.vars.toNat:=by rw[h.len,hl]
  refine⟨by rw[List.length_set];exact h.len,fun i b hi=>h.sub i b ?_,fun vs hS hF w hw=>?_⟩
  · by_cases hv:i=v.toNat
    · subst hv
      by_cases hlt:v.toNat<dom.length
      · rw[List.getD_eq_getElem?_getD,List.getElem?_set_self hlt,Option.getD_some] at hi
        exact(List.mem_filter.1 hi).1
      · rw[List.getD_eq_getElem?_getD,List.getElem?_eq_none (by rw[List.length_set];omega)] at hi
        cases hi
    · rw[List.getD_eq_getElem?_getD,List.getElem?_set_ne (fun e=>hv e.symm)] at hi
      rw[List.getD_eq_getElem?_getD];exact hi
  · rw[List.length_set] at hw
    have hfit:=h.sol vs hS hF;have h1:=hfit w hw
    by_cases hv:w=v.toNat
    · subst hv
      rw[List.getD_eq_getElem?_getD (l:=dom.set _ _),List.getElem?_set_self hw,Option.getD_some,List.mem_filter];refine⟨h1,?_⟩;rw[bne_iff_ne];intro e;have:=xMj hC hcm hS hdl hfit hp;rw[e,hb] at this
      cases this
    · rw[List.getD_eq_getElem?_getD (l:=dom.set _ _),List.getElem?_set_ne (fun e=>hv e.symm)]
      rw[List.getD_eq_getElem?_getD (l:=dom)] at h1;exact h1
def prd:List (List Int)→Nat
  | []=>1
  | d::D=>d.length*prd D
theorem xDh:∀ (D:List (List Int)) (i:Nat) (d w:List Int),D[i]?=some d→prd (D.set i w)*d.length=prd D*w.length
  | [],i,d,w,h=>by simp at h
  | x::D,0,d,w,h=>by
    simp at h
    subst h
    show w.length*prd D*x.length=x.length*prd D*w.length
    rw[Nat.mul_right_comm,Nat.mul_comm w.length,Nat.mul_right_comm]
  | x::D,i+1,d,w,h=>by
    have:=xDh D i d w (by simpa using h)
    show x.length*prd (D.set i w)*d.length=x.length*prd D*w.length
    rw[Nat.mul_assoc,this,Nat.mul_assoc]
theorem xFv:∀ (D E:List (List Int)),D.length=E.length→(∀ i,(D.getD i []).length≤(E.getD i []).length)→prd D≤prd E
  | [],[],_,_=>Nat.le_refl _
  | [],_::_,h,_=>by simp at h
  | _::_,[],h,_=>by simp at h
  | x::D,z::E,h,hl=>Nat.mul_le_mul (by simpa using hl 0) (xFv D E (by simpa using h) (fun i=>by simpa using hl (i+1)))
theorem xCr:∀ {D:List (List Int)},nB D→1≤prd D
  | [],_=>Nat.le_refl _
  | x::D,h=>by
    have h1:x≠[]:=h x (by simp)
    have h2:1≤x.length:=by
      cases x with
      | nil=>exact absurd rfl h1
      | cons _ _=>simp
    have h3:=xCr (D:=D) (fun d hd=>h d (by simp [hd]));exact Nat.mul_le_mul h2 h3
theorem xHd:∀ {D:List (List Int)},prd D=1→∀ d∈D,d.length=1
  | [],_,d,hd=>by cases hd
  | x::D,h,d,hd=>by
    have hh:x.length*prd D=1:=h;have h1:x.length=1:=Nat.eq_one_of_mul_eq_one_right hh;have h2:prd D=1:=Nat.eq_one_of_mul_eq_one_left hh
    rcases List.mem_cons.1 hd with rfl | hd
    · exact h1
    · exact xHd h2 d hd
theorem xMu (m:Nat) (d:List Int):prd (List.replicate m d)=d.length ^ m:=by
  induction m with
  | zero=>rfl
  | succ m ih=>rw[List.replicate_succ];show d.length*prd _=_;rw[ih,Nat.pow_succ,Nat.mul_comm]
theorem xIs {D:List (List Int)} {i:Nat} {d:List Int} {a:Int} (h:D[i]?=some d) (hn:d.Nodup) (ha:a∈d) (h2:2≤d.length) (hF:nB D) :
    prd (D.set i [a])+prd (D.set i (d.filter (· != a)))=prd D∧1≤prd (D.set i [a])∧prd (D.set i [a])≤prd (D.set i (d.filter (· != a))):=by
  have e1:=xDh D i d [a] h;have e2:=xDh D i d (d.filter (· != a)) h
  have hlen:(d.filter (· != a)).length+1=d.length:=by
    have h3:d.filter (· != a)=d.erase a:=(hn.erase_eq_filter a).symm;rw[h3,List.length_erase_of_mem ha]
    omega
  have hp:=xCr hF;obtain⟨q,hq⟩:∃ q,q=prd (D.set i [a]):=⟨_,rfl⟩;obtain⟨s,hs⟩:∃ s,s=prd (D.set i (d.filter (· != a))):=⟨_,rfl⟩;obtain⟨p,hpp⟩:∃ p,p=prd D:=⟨_,rfl⟩;obtain⟨m,hm⟩:∃ m,m=(d.filter (· != a)).length:=⟨_,rfl⟩;rw[← hq,← hpp,List.length_singleton,Nat.mul_one] at e1;rw[← hs,← hpp,← hm] at e2;rw[← hm] at hlen;rw[← hq,← hs,← hpp];rw[← hpp] at hp;rw[← e1,← hlen] at e2
  have e3:s=q*m:=by
    have:s*(m+1)=q*m*(m+1):=by rw[e2,Nat.mul_right_comm]
    exact Nat.eq_of_mul_eq_mul_right (by omega) this
  have hm1:1≤m:=by omega
  have hq1:1≤q:=by
    rcases Nat.eq_zero_or_pos q with h0 | h0
    · rw[h0,Nat.zero_mul] at e1;omega
    · exact h0
  refine⟨by rw[e3,← e1,← hlen,Nat.mul_add,Nat.mul_one,Nat.add_comm],hq1,?_⟩;rw[e3];exact Nat.le_mul_of_pos_right q hm1
def hdD (D:List (List Int)):List Int:=D.map (fun d=>d.getD 0 0)
theorem xDd (D:List (List Int)) (i:Nat):(hdD D).getD i 0=(D.getD i []).getD 0 0:=by
  unfold hdD
  rw[List.getD_eq_getElem?_getD,List.getElem?_map,List.getD_eq_getElem?_getD (l:=D)]
  cases D[i]?<;>rfl
theorem nG {d:List Int} (h:d≠[]):d.getD 0 0∈d:=by
  cases d with
  | nil=>exact absurd rfl h
  | cons a d=>simp
theorem pN {D:List (List Int)} (h:nB D) {i:Nat} (hi:i<D.length):D.getD i []≠[]:=by
  rw[List.getD_eq_getElem?_getD,List.getElem?_eq_getElem hi];exact h _ (List.getElem_mem hi)
theorem xMc {d:List Int} (h:d.length=1) {a:Int} (ha:a∈d):a=d.getD 0 0:=by
  match d,h with
  | [b],_=>simpa using ha
theorem xHq {T:Nat} {t:Template} {y:Instance} {D:List (List Int)} {i:Nat} {a:Int} (hu:TV T t) (hC:∀ c∈y.cons,CV t y.vars c) (hl:D.length=y.vars.toNat) (hr:∀ j b,b∈D.getD j []→0≤b∧b<t.size) (hF:nB D) (hS:xAb t y y.cons.length D)
    (hi:i<D.length) (h1:∀ j,j<D.length→j≠i→(D.getD j []).length=1) (ha:a∈D.getD i []):Sol t y (hdD (D.set i [a])):=by
  have hg:∀ j,j<D.length→j≠i→∀ b∈D.getD j [],b=(hdD (D.set i [a])).getD j 0:=fun j hj hne b hb=>by
    rw[xDd,List.getD_eq_getElem?_getD (l:=D.set i [a]),List.getElem?_set_ne (fun e=>hne e.symm),← List.getD_eq_getElem?_getD];exact xMc (h1 j hj hne) hb
  have hgi:(hdD (D.set i [a])).getD i 0=a:=by
    rw[xDd,List.getD_eq_getElem?_getD (l:=D.set i [a]),List.getElem?_set_self hi];rfl
  refine⟨by unfold hdD;rw[List.length_map,List.length_set,hl],fun v hv=>?_,fun c hc=>?_⟩
  · unfold hdD at hv
    obtain⟨d,hd,rfl⟩:=List.mem_map.1 hv
    rcases List.mem_or_eq_of_mem_set hd with hd | rfl
    · obtain⟨j,hj,rfl⟩:=List.mem_iff_getElem.1 hd
      have hm:=nG (hF _ (List.getElem_mem hj));exact hr j _ (by rw[List.getD_eq_getElem?_getD,List.getElem?_eq_getElem hj];exact hm)
    · exact hr i a ha
  · obtain⟨hsc,r,r0,r1,r2,r3⟩:=hC c hc
    obtain⟨n,e,n1,n4,_,hm⟩:=hu.r r r2
    have hk:c∈y.cons.take y.cons.length:=by rw[List.take_length];exact hc
    have hpos:0<c.scope.length:=by omega
    have key:∃ tt∈r.tuples,agB c.scope tt=true∧nD D c.scope tt=true∧∀ p v,c.scope[p]?=some v→v.toNat=i→tt.getD p 0=a:=by
      by_cases hex:∃ (p:Nat) (v:Int),c.scope[p]?=some v∧v.toNat=i
      · obtain⟨p,v,hp,hv⟩:=hex
        have hs:=hS c hk p v hp a (by rw[hv];exact ha)
        unfold wH at hs
        rw[gN r0 r1,Option.getD_some,List.any_eq_true] at hs;obtain⟨tt,ht,hs⟩:=hs
        unfold uF at hs
        rw[Bool.and_eq_true,Bool.and_eq_true,beq_iff_eq] at hs;refine⟨tt,ht,hs.2.1,hs.2.2,fun q w hq hw=>?_⟩;have hpl:=(List.getElem?_eq_some_iff.1 hp).1;have hql:=(List.getElem?_eq_some_iff.1 hq).1;have hpv:=hsc v (List.mem_of_getElem? hp);have hqv:=hsc w (List.mem_of_getElem? hq);rw[← hs.1];refine xOy hs.2.1 hpl hql ?_;rw[List.getD_eq_getElem?_getD,List.getD_eq_getElem?_getD,hp,hq]
        show w=v
        omega
      · have h0:c.scope[0]?=some c.scope[0]:=List.getElem?_eq_getElem hpos
        have hv0:=hsc _ (List.getElem_mem hpos);have hs:=hS c hk 0 _ h0 _ (nG (pN hF (by omega)))
        unfold wH at hs
        rw[gN r0 r1,Option.getD_some,List.any_eq_true] at hs;obtain⟨tt,ht,hs⟩:=hs
        unfold uF at hs
        rw[Bool.and_eq_true,Bool.and_eq_true] at hs;exact⟨tt,ht,hs.2.1,hs.2.2,fun q w hq hw=>absurd ⟨q,w,hq,hw⟩ hex⟩
    obtain⟨tt,ht,hag,hlf,hta⟩:=key
    have htl:tt.length=c.scope.length:=by have:=(iN.1 (hm tt ht)).1;omega
    unfold sY
    rw[decide_eq_true_iff,List.getD_eq_getElem?_getD,r1]
    have:atV (hdD (D.set i [a])) c.scope=tt:=by
      apply List.ext_getElem?
      intro k
      by_cases hkl:k<c.scope.length
      · have hkc:c.scope[k]?=some c.scope[k]:=List.getElem?_eq_getElem hkl
        have hkt:tt[k]?=some tt[k]:=List.getElem?_eq_getElem (by omega);have hv:=hsc _ (List.getElem_mem hkl)
        unfold atV
        rw[List.getElem?_map,hkc,hkt]
        show some _=some _
        congr 1
        show(hdD (D.set i [a])).getD (c.scope[k]).toNat 0=tt[k]
        by_cases hki:c.scope[k].toNat=i
        · rw[hki,hgi]
          have:=hta k _ hkc hki;rw[List.getD_eq_getElem?_getD,hkt] at this;exact this.symm
        · exact(hg _ (by omega) hki _ (xEc D c.scope tt hlf k _ _ hkc hkt)).symm
      · rw[List.getElem?_eq_none (by rw[xJp];omega),List.getElem?_eq_none (by omega)]
    rw[this];exact ht
theorem xJq {D:List (List Int)} {i:Nat} {a:Int} (hF:nB D):Fit (D.set i [a]) (hdD (D.set i [a])):=fun j hj=>by
  rw[xDd];refine nG ?_;rw[List.length_set] at hj
  by_cases h:j=i
  · subst h;rw[List.getD_eq_getElem?_getD,List.getElem?_set_self hj];simp
  · rw[List.getD_eq_getElem?_getD,List.getElem?_set_ne (fun e=>h e.symm),← List.getD_eq_getElem?_getD];exact pN hF hj
end Go.Proofs.YtncganhbpbehaaaGreat
namespace Go.Proofs.YtncganhbpbehaaaGreat
set_option linter.unusedVariables false
set_option linter.unusedSimpArgs false
def CtlG {σ σ' ρ ρ':Type} (R:σ→σ'→Prop) (EE:Out σ ρ→Out σ' ρ'→Prop):Ctl σ ρ→Ctl σ' ρ'→Prop
  | .go s,.go s'=>R s s'
  | .brk s,.brk s'=>EE (.nx s) (.nx s')
  | .brk s,.ret r'=>EE (.nx s) (.ret r')
  | .ret r,.brk s'=>EE (.ret r) (.nx s')
  | .ret r,.ret r'=>EE (.ret r) (.ret r')
  | _,_=>False
theorem cK.loop {σ σ' ρ ρ':Type} {P:ρ→ρ'→Prop} (R:σ→σ'→Prop) (μ:σ→Nat) {f:σ→Option (Ctl σ ρ)} {g:σ'→Option (Ctl σ' ρ')} {k:σ→Option ρ} {k':σ'→Option ρ'} :
    ∀ {N:Nat} {s:σ} {s':σ'},μ s<N→R s s'→(∀ s s',R s s'→cK (f s) (g s') (CtlG (fun t t'=>R t t'∧μ t<μ s) (fun e e'=>cK (Go.Proofs.YtncganhbpbehaaaGreat.zR (some e) k) (Go.Proofs.YtncganhbpbehaaaGreat.zR (some e') k') P)))→cK (Go.Proofs.YtncganhbpbehaaaGreat.zR (Go.Proofs.YtncganhbpbehaaaGreat.fA f N s) k) (Go.Proofs.YtncganhbpbehaaaGreat.zR (Go.Proofs.YtncganhbpbehaaaGreat.fA g N s') k') P
  | 0,_,_,h,_,_=>by omega
  | N+1,s,s',hN,h,hh=>by
    obtain⟨a,b,h1,h2,h3⟩:=hh s s' h
    cases a with
    | go t=>
      cases b with
      | go t'=>
        rw[iA h1,iA h2];exact cK.loop R μ (by have:=h3.2;omega) h3.1 hh
      | brk t'=>exact h3.elim
      | ret r'=>exact h3.elim
    | brk t=>
      cases b with
      | go t'=>exact h3.elim
      | brk t'=>rw[fC h1,fC h2];exact h3
      | ret r'=>rw[fC h1,sO h2];exact h3
    | ret r=>
      cases b with
      | go t'=>exact h3.elim
      | brk t'=>rw[sO h1,fC h2];exact h3
      | ret r'=>rw[sO h1,sO h2];exact h3
theorem sV {ρ:Type} (f:ArcStep→Line):∀ (out:List ArcStep) (k:Nat) (s:List Line),s.length+out.length≤1048576→qT (σ:=List Line) (ρ:=ρ) (fun(k:Nat) (x:ArcStep) (s:List Line)=>xZ (ap s [f x]) fun z=>some (.go z)) out k s=some (.nx (s++out.map f))
  | [],_,s,_=>by simp
  | x::out,k,s,h=>by
    rw[List.length_cons] at h;rw[kB (s':=s++[f x]) (by rw[zX (by simp only[List.length_cons,List.length_nil];omega),bnd_s]),sV f out (k+1) _ (by simp only[List.length_append,List.length_singleton];omega)]
    simp
theorem yI {ρ:Type}:∀ (dom:List (List Int)) (k:Nat) (s:List Int),nB dom→s.length+dom.length≤1048576→qT (σ:=List Int) (ρ:=ρ) (fun(k:Nat) (x:List Int) (s:List Int)=>xZ (ix x 0) fun z=>xZ (ap s [z]) fun z2=>some (.go z2)) dom k s=some (.nx (s++dom.map (fun d=>d.getD 0 0)))
  | [],_,s,_,_=>by simp
  | x::dom,k,s,hF,h=>by
    rw[List.length_cons] at h;have hx:0<x.length:=List.length_pos_iff.2 (hF x (by simp));have h0:ix x 0=some (x.getD 0 0):=jG (k:=0) hx;rw[kB (s':=s++[x.getD 0 0]) (by rw[h0,bnd_s,zX (by simp only[List.length_cons,List.length_nil];omega),bnd_s]),yI dom (k+1) _ (fun d hd=>hF d (by simp [hd])) (by simp only[List.length_append,List.length_singleton];omega)]
    simp
theorem own_lists {ρ:Type} (g:List Int→Option (List Int)) (hg:∀ l:List Int,l.length≤1048576→g l=some l):∀ (dom:List (List Int)) (k:Nat) (s:List (List Int)),(∀ d∈dom,d.length≤1048576)→s.length+dom.length≤1048576→qT (σ:=List (List Int)) (ρ:=ρ) (fun(k:Nat) (x:List Int) (s:List (List Int))=>xZ (g x) fun z=>xZ (ap s [z]) fun z2=>some (.go z2)) dom k s=some (.nx (s++dom))
  | [],_,s,_,_=>by simp
  | x::dom,k,s,hF,h=>by
    rw[List.length_cons] at h;rw[kB (s':=s++[x]) (by rw[hg x (hF x (by simp)),bnd_s,zX (by simp only[List.length_cons,List.length_nil];omega),bnd_s]),own_lists g hg dom (k+1) _ (fun d hd=>hF d (by simp [hd])) (by simp only[List.length_append,List.length_singleton];omega)]
    simp
theorem uP (dom:List (List Int)) (h:∀ d∈dom,d.length≤1048576) (hl:dom.length≤1048576):eC dom=some dom:=by
  unfold eC
  rw[own_lists _ rF dom 0 [] h (by simpa using hl),thn_nx];rfl
theorem xCn (dom:List (List Int)) (h:∀ d∈dom,d.length≤1048576) (hl:dom.length≤1048576):gA dom=some dom:=by
  unfold gA
  rw[own_lists _ own_eq dom 0 [] h (by simpa using hl),thn_nx];rfl
theorem xIh (dom:List (List Int)) (a:Template) (b:Instance) (c d:Int) (e:List Line) (f:List Int) (g:Bool):∃ v,jN dom=some v∧cL a b c d e f g dom=some v∧ -1≤v∧(0≤v→∃ q,ix dom v=some q∧dom[v.toNat]?=some q∧2≤q.length)∧(v<0→∀ d∈dom,d.length≤1):=by
  unfold jN cL
  obtain⟨s',h1,h2,h3⟩:=xBh (l:=dom) (k:=0) (s:=(-1:Int)) (f:=fun(k67:Nat) (x69:(List Int)) (s63:Int)=>
      zR (σ:=Bool) (
        if (decide (2≤(x69.length:Int))) then   if (decide (s63<0)) then   some (.nx true) else   xZ (ix dom s63) fun z104=>
            some (.nx (decide ((x69.length:Int)<(z104.length:Int)))) else   some (.nx false)) fun s99=>
      if s99 then
        some (Ctl.go (ρ:=Int) (k67:Int))
      else
        some (.go s63)) (g:=fun(k92:Nat) (x94:(List Int)) (s88:Int)=>
      zR (σ:=Bool) (
        if (decide (1<(x94.length:Int))) then   if (decide (s88<0)) then   some (.nx true) else   xZ (ix dom s88) fun z154=>
            some (.nx (decide ((x94.length:Int)<(z154.length:Int)))) else   some (.nx false)) fun s133=>
      if s133 then
        some (Ctl.go (ρ:=Int) (k92:Int))
      else
        some (.go s88)) (fun k s=>-1≤s∧s<(k:Int)∧(0≤s→∃ q,ix dom s=some q∧dom[s.toNat]?=some q∧2≤q.length)∧(s<0→∀ d∈dom.take k,d.length≤1)) ⟨by omega,by omega,(fun h=>by omega),fun _ d hd=>by simp at hd⟩ (fun j x s hj hI=>by
    obtain⟨i1,i2,i3,i4⟩:=hI;rw[Nat.zero_add] at i2 i4 ⊢
    have hd:decide (1<(x.length:Int))=decide (2≤(x.length:Int)):=by
      by_cases h:2≤(x.length:Int)
      · rw[decide_eq_true h,decide_eq_true (by omega)]
      · rw[decide_eq_false h,decide_eq_false (by omega)]
    rw[hd];have hgo:2≤(x.length:Int)→ -1≤(j:Int)∧(j:Int)<((j+1:Nat):Int)∧(0≤(j:Int)→∃ q,ix dom (j:Int)=some q∧dom[(j:Int).toNat]?=some q∧2≤q.length)∧((j:Int)<0→∀ d∈dom.take (j+1),d.length≤1):=fun h=>⟨by omega,by omega,fun _=>⟨x,qX hj,by simpa using hj,by omega⟩,fun h=>by omega⟩
    have hst:(s<0→x.length≤1)→ -1≤s∧s<((j+1:Nat):Int)∧(0≤s→∃ q,ix dom s=some q∧dom[s.toNat]?=some q∧2≤q.length)∧(s<0→∀ d∈dom.take (j+1),d.length≤1):=fun hx=>⟨i1,by omega,i3,fun h d hd=>by
      rw[List.take_add_one,hj] at hd
      rcases List.mem_append.1 hd with hd | hd
      · exact i4 h d hd
      · simp only[Option.toList,List.mem_singleton] at hd
        rw[hd];exact hx h⟩
    by_cases h2:2≤(x.length:Int)
    · rw[decide_eq_true h2]
      by_cases h3:s<0
      · rw[decide_eq_true h3]
        exact⟨(j:Int),rfl,rfl,hgo h2⟩
      · rw[decide_eq_false h3]
        obtain⟨q,q1,q2,q3⟩:=i3 (by omega);simp only[if_true,Bool.false_eq_true,if_false,q1,bnd_s,thn_nx]
        by_cases h4:(x.length:Int)<(q.length:Int)
        · rw[decide_eq_true h4];exact⟨(j:Int),rfl,rfl,hgo h2⟩
        · rw[decide_eq_false h4];exact⟨s,rfl,rfl,hst (fun h=>absurd h h3)⟩
    · rw[decide_eq_false h2]
      exact⟨s,rfl,rfl,hst (fun _=>by omega)⟩)
  rw[h1,h2,thn_nx];exact⟨s',rfl,rfl,h3.1,h3.2.2.1,fun h d hd=>h3.2.2.2 h d (by rw[Nat.zero_add,List.take_length];exact hd)⟩
theorem xJt {N n:Nat} {x:Template} {y:Instance} {bud st cd:Int} {ln:List Line} {vl:List Int} {dom:List (List Int)} (hN:60≤N) (hn:n≤10) (hnv:n=y.vars.toNat) (hC:∀ c∈y.cons,CV x y.vars c) (hy:∀ c∈y.cons,ConOk x c n) (hok:DomOk n 40 dom) (hs0:0≤st) (hs1:st<bud) (hb:bud≤5000) (hln:(ln.length:Int)≤42*st) :
    ∃ dom' out,dG N x.size x.rels y.vars y.cons bud st ln vl cd dom=some (true,st+1,ln++out.map (fun a=>Line.mk 2 a.var a.value a.con),cd,dom')∧aH N x y dom true=some (out,dom')∧DomOk n 40 dom'∧out.length≤40∧Kp x y dom dom'∧(nB dom'→xAb x y y.cons.length dom'):=by
  have hck:ck (st+1)=some (st+1):=kE (by omega) (by omega);have hlen:=hok.len;have hle:=hok.le
  unfold dG
  rw[if_neg (by simp;omega),hck,bnd_s,uW,bnd_s]
  by_cases hF:nB dom
  · have hok2:DomOk n (tot dom) dom:=⟨hok.len,hok.nd,Nat.le_refl _⟩
    obtain⟨⟨out,dom'⟩,r',h1,h2,rfl,h3,h4,h5,h6⟩:=xKx (N:=N) (K:=Kp x y dom) (x:=x) (y:=y) (fun c hc p v hp=>Kp.stay (by omega) (hC c hc) hc p v hp) (Kp.refl x y dom) (by omega) hy hok2 (by omega) (by omega) (by omega) (by omega) hF;simp only at h3 h4 h5 h6;refine⟨dom',out,?_,h2,⟨h3.len,h3.nd,by omega⟩,by omega,h5,h6⟩;rw[(pS dom).2 hF,if_neg (by simp),show(Template.mk x.size x.rels)=x from rfl,show(Instance.mk y.vars y.cons)=y from rfl,h1,bnd_s];simp only;rw[sV (fun a=>Line.mk 2 a.var a.value a.con) out 0 ln (by omega),thn_nx]
  · have h2:(dom.any (fun d=>(d.length:Int)==0))=true:=by
      cases h3:(dom.any (fun d=>(d.length:Int)==0)) with
      | true=>rfl
      | false=>exact absurd ((pS dom).1 h3) hF
    refine⟨dom,[],?_,xIc (by omega) (by omega) hF,hok,by simp,Kp.refl x y dom,fun h=>absurd h hF⟩;rw[h2,if_pos rfl]
    simp
inductive Bal:List Line→Prop
  | nil:Bal []
  | two {l:List Line} {x:Line}:Bal l→x.kind≠1→x.kind≠3→Bal (l++[x])
  | pair {l s:List Line} {x z:Line}:Bal l→x.kind=1→Bal s→z.kind=3→Bal (l++([x]++(s++[z])))
theorem Bal.twos {l:List Line}:∀ (m:List Line),Bal l→(∀ x∈m,x.kind≠1∧x.kind≠3)→Bal (l++m)
  | [],h,_=>by rw[List.append_nil];exact h
  | x::m,h,hm=>by
    have:=Bal.twos m (h.two (hm x (by simp)).1 (hm x (by simp)).2) (fun y hy=>hm y (by simp [hy]))
    simpa using this
def sZ (p:List (List Literal)×List Literal) (x:Line):List (List Literal)×List Literal:=
  if x.kind=1 then (p.1,p.2++[Literal.mk x.var x.value]) else if x.kind=3 then (p.1++[p.2],p.2.dropLast) else p
def sA (l:List Line) (p:List (List Literal)×List Literal):List (List Literal)×List Literal:=l.foldl sZ p
theorem rG (l m:List Line) (p:List (List Literal)×List Literal):sA (l++m) p=sA m (sA l p):=List.foldl_append
def CL (x:Template) (y:Instance) (c:List Literal):Prop:=∀ l∈c,(0≤l.var∧l.var<y.vars)∧0≤l.value∧l.value<x.size
def tC (c:List Literal) (vs:List Int):Prop:=∀ l∈c,vs.getD l.var.toNat 0=l.value
def NG (x:Template) (y:Instance) (q:List Literal):Prop:=CL x y q∧∀ vs,Sol x y vs→¬ tC q vs
def LF (x:Template) (y:Instance) (c:List Literal) (seg:List Line):Prop:=∀ o,∃ os,sA seg (o,c)=(o++os,c)∧∀ q∈os,NG x y q
theorem LF.nil {x:Template} {y:Instance} {c:List Literal}:LF x y c []:=fun o=>⟨[],by simp [sA],fun q hq=>nomatch hq⟩
theorem LF.twos {x:Template} {y:Instance} {c:List Literal} {seg:List Line}:∀ (m:List Line),LF x y c seg→(∀ x∈m,x.kind≠1∧x.kind≠3)→LF x y c (seg++m)
  | [],h,_=>by rw[List.append_nil];exact h
  | z::m,h,hm=>by
    have h1:LF x y c (seg++[z]):=fun o=>by
      obtain⟨os,e,hq⟩:=h o;refine⟨os,?_,hq⟩;rw[rG,e]
      show sZ _ _=_
      unfold sZ
      rw[if_neg (hm z (by simp)).1,if_neg (hm z (by simp)).2]
    have:=LF.twos m h1 (fun w hw=>hm w (by simp [hw]))
    simpa using this
theorem LF.pair {x:Template} {y:Instance} {c:List Literal} {seg s:List Line} {v a i:Int} (h:LF x y c seg) (hs:LF x y (c++[Literal.mk v a]) s) (hn:NG x y (c++[Literal.mk v a])):LF x y c (seg++([Line.mk 1 v a 0]++(s++[Line.mk 3 i 0 0]))):=fun o=>by
  obtain⟨o1,e1,q1⟩:=h o;obtain⟨o2,e2,q2⟩:=hs (o++o1);refine⟨o1++(o2++[c++[Literal.mk v a]]),?_,fun q hq=>?_⟩
  · rw[rG,e1,rG]
    have:sA [Line.mk 1 v a 0] (o++o1,c)=(o++o1,c++[Literal.mk v a]):=rfl;rw[this,rG,e2]
    show((o++o1++o2)++[c++[Literal.mk v a]],(c++[Literal.mk v a]).dropLast)=_
    rw[List.dropLast_concat]
    simp
  · rcases List.mem_append.1 hq with hq | hq
    · exact q1 q hq
    · rcases List.mem_append.1 hq with hq | hq
      · exact q2 q hq
      · rw[List.mem_singleton.1 hq];exact hn
def Rg (x:Template) (dom:List (List Int)):Prop:=∀ i a,a∈dom.getD i []→0≤a∧a<x.size
theorem nX {D:List (List Int)} {v:Nat} {q w:List Int} (hq:D[v]?=some q) (hw:∀ a∈w,a∈q):∀ i a,a∈(D.set v w).getD i []→a∈D.getD i []:=fun i a ha=>by
  have hv:=(List.getElem?_eq_some_iff.1 hq).1
  by_cases h:i=v
  · subst h
    rw[List.getD_eq_getElem?_getD,List.getElem?_set_self hv] at ha;rw[List.getD_eq_getElem?_getD,hq];exact hw a ha
  · rw[List.getD_eq_getElem?_getD,List.getElem?_set_ne (fun e=>h e.symm)] at ha
    rw[List.getD_eq_getElem?_getD];exact ha
theorem wS {D:List (List Int)} {v:Nat} {w:List Int} {vs:List Int} (h:Fit D vs) (hw:vs.getD v 0∈w):Fit (D.set v w) vs:=fun i hi=>by
  rw[List.length_set] at hi
  by_cases e:i=v
  · subst e;rw[List.getD_eq_getElem?_getD (l:=D.set _ _),List.getElem?_set_self hi];exact hw
  · rw[List.getD_eq_getElem?_getD (l:=D.set _ _),List.getElem?_set_ne (fun h=>e h.symm),← List.getD_eq_getElem?_getD];exact h i hi
theorem xCf {D E:List (List Int)} {vs:List Int} (hl:D.length=E.length) (h:Fit D vs) (hs:∀ i a,a∈D.getD i []→a∈E.getD i []):Fit E vs:=fun i hi=>hs i _ (h i (by omega))
theorem xFd:∀ (d e:List Int),d.Nodup→(∀ a∈d,a∈e)→d.length≤e.length
  | [],_,_,_=>by simp
  | a::d,e,h,hs=>by
    obtain⟨h1,h2⟩:=List.nodup_cons.1 h;have h3:a∈e:=hs a (by simp);have h4:=xFd d (e.erase a) h2 (fun b hb=>(List.mem_erase_of_ne (a:=b) (b:=a) (fun e'=>by subst e';exact h1 hb)).2 (hs b (by simp [hb])));have h5:=List.length_erase_of_mem h3;have h6:=List.length_pos_of_mem h3;rw[List.length_cons]
    omega
theorem xLu {v w:Int} {L n:Nat} (h1:v.toNat<L) (h2:L=n) (h3:n=w.toNat):v<w:=by omega
theorem xPa {bud st t:Int} {m:Nat} (h:(bud - st).toNat≤m+1) (h0:st≤t) (h1:t<bud):(bud - (t+1)).toNat≤m:=by omega
theorem yK {D E:List (List Int)} (hn:∀ d∈D,d.Nodup) (hs:∀ i a,a∈D.getD i []→a∈E.getD i []) (i:Nat):(D.getD i []).length≤(E.getD i []).length:=by
  have hnd:(D.getD i []).Nodup:=by
    by_cases hi:i<D.length
    · rw[List.getD_eq_getElem?_getD,List.getElem?_eq_getElem hi];exact hn _ (List.getElem_mem hi)
    · rw[List.getD_eq_getElem?_getD,List.getElem?_eq_none (by omega)];exact List.nodup_nil
  exact xFd _ _ hnd (fun a ha=>hs i a ha)
structure LEnd (x:Template) (y:Instance) (n:Nat) (st:Int) (dom:List (List Int)) (c:List Literal) (ln:List Line) (r:Bool×Int×(List Line)×(List Int)×Int×(List (List Int))) (r':Bool×Int×(List Line)×(List Int)×Bool×(List (List Int))):Prop where
  eb:r'.1 = !r.1
  est:r'.2.1=r.2.1
  eln:r'.2.2.1=r.2.2.1
  evl:r'.2.2.2.1=r.2.2.2.1
  ecd:r.2.2.2.2.1=0∧r'.2.2.2.2.1=false
  ego:r.1=true→r.2.2.2.1=[]
  elo:st≤r.2.1
  ehi:r.1=false→r.2.1≤st+prd dom
  efl:r.1=true→r.2.1≤st+1∨r.2.1+1≤st+prd dom
  ele:(r.2.2.1.length:Int)≤42*r.2.1
  evn:r.2.2.2.1.length≤n
  eno:r.1=true→∀ vs,Sol x y vs→¬ Fit dom vs
  eye:r.1=false→Sol x y r.2.2.2.1∧Fit dom r.2.2.2.1
  ebr:r.1=true→∃ seg i,Bal seg∧LF x y c seg∧r.2.2.1=ln++(seg++[Line.mk 3 i 0 0])
theorem xIm {T n:Nat} {x:Template} {y:Instance} {bud:Int} (hu:TV T x) (hn:n≤10) (hnv:n=y.vars.toNat) (hn1:1≤n) (hC:∀ c∈y.cons,CV x y.vars c) (hy:∀ c∈y.cons,ConOk x c n) (hb:bud≤5000):∀ (m N:Nat) (st:Int) (ln:List Line) (dom:List (List Int)) (c:List Literal),(bud - st).toNat≤m→m+70≤N→0≤st→(ln.length:Int)≤42*st→DomOk n 40 dom→Rg x dom→CL x y c→(∀ vs,Sol x y vs→tC c vs→Fit dom vs)→st+1≤bud→st+prd dom≤bud →
    cK (aB N x.size x.rels y.vars y.cons bud st ln [] 0 dom) (kN N x y bud st ln [] false dom) (LEnd x y n st dom c ln):=by
  intro m
  induction m with
  | zero=>intro N st ln dom c hm hN h0 hl hok hrg hcl hpre hs1 hs2;omega
  | succ m ih=>
    intro N st ln dom c hm hN h0 hl hok hrg hcl hpre hs1 hs2;obtain⟨N,rfl⟩:∃ k,N=k+1:=⟨N - 1,by omega⟩;rw[aB,kN];refine cK.loop (fun s s'=>∃ d t l,s=(d,t,l,[],0)∧s'=(d,t,l,[],false)∧st≤t∧t<bud∧(l.length:Int)≤42*t∧DomOk n 40 d∧t+prd d≤st+prd dom∧(t=st∨2≤prd d)∧(∀ i a,a∈d.getD i []→a∈dom.getD i [])∧(∀ vs,Sol x y vs→Fit dom vs→Fit d vs)∧∃ seg,Bal seg∧LF x y c seg∧l=ln++seg) (fun s=>(bud - s.2.1).toNat) (by simp only;omega) ⟨dom,st,ln,rfl,rfl,by omega,by omega,hl,hok,by omega,.inl rfl,(fun _ _ h=>h),(fun _ _ h=>h),[],Bal.nil,LF.nil,by simp⟩ (fun s s' hR=>?_);obtain⟨d,t,l,rfl,rfl,ht0,htb0,hll,hdok,hpd,htd,hsub,hkeep,seg,hseg,hlf,hsl⟩:=hR;simp only
    have htb:t≠bud:=by omega
    have ht1:t<bud:=htb0;obtain⟨d',out,e1,e2,hd'ok,hout,hkp,hsup⟩:=xJt (N:=N) (bud:=bud) (st:=t) (cd:=0) (ln:=l) (vl:=[]) (dom:=d) (x:=x) (y:=y) (by omega) hn hnv hC hy hdok (by omega) (by omega) hb hll;obtain⟨ln',hln'⟩:∃ q,q=l++out.map (fun a=>Line.mk 2 a.var a.value a.con):=⟨_,rfl⟩;rw[← hln'] at e1
    have hln'l:(ln'.length:Int)≤42*t+40:=by rw[hln',List.length_append,List.length_map];omega
    have hk2:∀ q∈out.map (fun(a:ArcStep)=>Line.mk 2 a.var a.value a.con),q.kind≠1∧q.kind≠3:=fun q hq=>by
      obtain⟨a,_,rfl⟩:=List.mem_map.1 hq;exact⟨show(2:Int)≠1 by decide,show(2:Int)≠3 by decide⟩
    have hbal:Bal (seg++out.map (fun a=>Line.mk 2 a.var a.value a.con)):=Bal.twos _ hseg hk2;have hlf2:LF x y c (seg++out.map (fun a=>Line.mk 2 a.var a.value a.con)):=LF.twos _ hlf hk2;obtain⟨sg,hsg⟩:∃ sg,sg=seg++out.map (fun a=>Line.mk 2 a.var a.value a.con):=⟨_,rfl⟩
    have hlns:ln'=ln++sg:=by rw[hln',hsg,hsl,List.append_assoc]
    rw[← hsg] at hbal hlf2;have hd'len:=hd'ok.len;have hd'le:=hd'ok.le;have hdlen:=hdok.len;have hdomlen:=hok.len;have hck:ck (t+1)=some (t+1):=kE (by omega) (by omega)
    have hsml:∀ q∈d',q.length≤1048576:=fun q hq=>by have:=pA hq;omega
    have hrg':Rg x d':=fun i a ha=>hrg i a (hsub i a (hkp.sub i a ha));have hpd':prd d'≤prd d:=xFv d' d (by omega) (fun i=>yK hd'ok.nd hkp.sub i);have hkeep':∀ vs,Sol x y vs→Fit dom vs→Fit d' vs:=fun vs h1 h2=>hkp.sol vs h1 (hkeep vs h1 h2);have hsub':∀ i a,a∈d'.getD i []→a∈dom.getD i []:=fun i a ha=>hsub i a (hkp.sub i a ha);refine cK.l e1 ?_;rw[if_pos rfl,if_neg (by simpa using htb)];refine cK.r hck (cK.r e2 ?_);simp only;rw[sV (fun a=>Line.mk 2 a.var a.value a.con) out 0 l (by omega),thn_nx,← hln'];obtain⟨i,i1,i2⟩:=jL d' (fun q=>(q.length:Int)==0) (fun a0=>fF a0) (fun _ _=>rfl);have i3:zJ d' (fun a0=>fF a0)=some i:=i1;have i4:dN x y bud (t+1) ln' [] false d'=some i:=i1;refine cK.l i3 (cK.r i4 ?_)
    cases hany:d'.any (fun q=>(q.length:Int)==0) with
    | true=>
      rw[hany] at i2;have hap:ap ln' [Line.mk 3 i 0 0]=some (ln'++[Line.mk 3 i 0 0]):=zX (by simp only[List.length_cons,List.length_nil];omega);rw[if_pos i2,if_pos i2];refine cK.l hap (cK.r hap (cK.s ?_))
      show cK (zR (some (.ret _)) _) (zR (some (.ret _)) _) _
      rw[thn_ret,thn_ret]
      have hnf:¬ nB d':=fun h=>by have:=(pS d').2 h;rw[hany] at this;cases this
      refine cK.s ⟨rfl,rfl,rfl,rfl,⟨rfl,rfl⟩,fun _=>rfl,by simp only;omega,(fun h=>nomatch h),fun _=>?_,by simp only[List.length_append,List.length_singleton];omega,by simp,fun _ vs h1 h2=>?_,(fun h=>nomatch h),fun _=>⟨sg,i,hbal,hlf2,by simp only[hlns,List.append_assoc]⟩⟩
      · show t+1≤st+1∨t+1+1≤st+prd dom
        rcases htd with h | h
        · exact .inl (by omega)
        · exact .inr (by omega)
      · refine hnf (fun e he h0=>?_)
        obtain⟨j,hj,rfl⟩:=List.mem_iff_getElem.1 he;have:=hkeep' vs h1 h2 j hj;rw[List.getD_eq_getElem?_getD (l:=d'),List.getElem?_eq_getElem hj,Option.getD_some,h0] at this
        cases this
    | false=>
      rw[hany] at i2;have hF':=(pS d').1 hany;have hS':=hsup hF';have hp':=xCr hF';rw[if_neg (by rw[i2];simp),if_neg (by rw[i2];simp)];obtain⟨v,b1,b2,b3,b4,b5⟩:=xIh d' x y bud (t+1) ln' [] false;refine cK.l b1 (cK.r b2 ?_)
      by_cases hv:v<0
      · rw[if_pos (by simpa using hv),if_pos (by simpa using hv)]
        rw[yI d' 0 [] hF' (by simp;omega),yI d' 0 [] hF' (by simp;omega),thn_nx,thn_nx];refine cK.s ?_
        show cK (zR (some (.ret _)) _) (zR (some (.ret _)) _) _
        rw[thn_ret,thn_ret]
        have h1:∀ j,j<d'.length→j≠0→(d'.getD j []).length=1:=fun j hj _=>by
          have h2:=pN hF' hj;have h3:(d'.getD j []).length≤1:=b5 hv _ (by rw[List.getD_eq_getElem?_getD,List.getElem?_eq_getElem hj];exact List.getElem_mem hj);have h4:=List.length_pos_iff.2 h2
          omega
        have hm0:=nG (pN hF' (i:=0) (by omega));have hsol:=xHq (i:=0) hu hC (by omega) hrg' hF' hS' (by omega) h1 hm0
        have h00:(d'.getD 0 []).length=1:=by
          have h3:(d'.getD 0 []).length≤1:=b5 hv _ (by rw[List.getD_eq_getElem?_getD,List.getElem?_eq_getElem (by omega)];exact List.getElem_mem _);have h4:=List.length_pos_iff.2 (pN hF' (i:=0) (by omega))
          omega
        have hself:d'.set 0 [(d'.getD 0 []).getD 0 0]=d':=by
          apply List.ext_getElem?
          intro k
          by_cases hk:k=0
          · subst hk
            rw[List.getElem?_set_self (by omega)]
            have h5:d'[0]?=some (d'.getD 0 []):=by rw[List.getD_eq_getElem?_getD,List.getElem?_eq_getElem (by omega)];rfl
            rw[h5];generalize d'.getD 0 []=e at h00
            match e,h00 with
            | [z],_=>rfl
          · rw[List.getElem?_set_ne (fun e=>hk e.symm)]
        rw[hself] at hsol
        have hfit:Fit d' (hdD d'):=by have:=xJq (i:=0) (a:=(d'.getD 0 []).getD 0 0) hF';rwa [hself] at this
        exact cK.s ⟨rfl,rfl,rfl,rfl,⟨rfl,rfl⟩,(fun h=>nomatch h),by simp only;omega,(fun _=>by show t+1≤st+prd dom;omega),(fun h=>nomatch h),by simp only;omega,by simp;omega,(fun h=>nomatch h),fun _=>(by show Sol x y ([]++hdD d')∧Fit dom ([]++hdD d');rw[List.nil_append];exact⟨hsol,xCf (by omega) hfit hsub'⟩),(fun h=>nomatch h)⟩
      · rw[if_neg (by simpa using hv),if_neg (by simpa using hv)]
        obtain⟨q,q1,q2,q3⟩:=b4 (by omega);have hqm:q∈d':=List.mem_of_getElem? q2;have hq0:ix q 0=some (q.getD 0 0):=jG (k:=0) (by omega);obtain⟨a,ha⟩:∃ a,a=q.getD 0 0:=⟨_,rfl⟩
        have haq:a∈q:=by rw[ha];exact nG (hF' q hqm)
        rw[← ha] at hq0;have hap:ap ln' [Line.mk 1 v a 0]=some (ln'++[Line.mk 1 v a 0]):=zX (by simp only[List.length_cons,List.length_nil];omega);have hin:DomOk n 40 (d'.set v.toNat [a]):=hd'ok.set q2 (by simp) (by simp;omega);have hout2:DomOk n 40 (d'.set v.toNat (q.filter (· != a))):=hd'ok.set q2 ((hd'ok.nd q hqm).filter _) (List.length_filter_le _ _);have hvl:=(List.getElem?_eq_some_iff.1 q2).1
        have hqg:d'.getD v.toNat []=q:=by rw[List.getD_eq_getElem?_getD,q2];rfl
        have hra:=hrg' v.toNat a (by rw[hqg];exact haq);obtain⟨p1,p2,p3⟩:=xIs q2 (hd'ok.nd q hqm) haq q3 hF';have hsub1:=nX (w:=[a]) q2 (fun z hz=>by rw[List.mem_singleton.1 hz];exact haq);have hsub2:=nX (w:=q.filter (· != a)) q2 (fun z hz=>(List.mem_filter.1 hz).1)
        have hcl2:CL x y (c++[Literal.mk v a]):=fun z hz=>by
          rcases List.mem_append.1 hz with hz | hz
          · exact hcl z hz
          · rw[List.mem_singleton.1 hz];exact⟨⟨by show 0≤v;omega,xLu hvl hd'len hnv⟩,hra⟩
        have hpre2:∀ vs,Sol x y vs→tC (c++[Literal.mk v a]) vs→Fit (d'.set v.toNat [a]) vs:=fun vs h1 h2=>by
          have h3:=hkeep' vs h1 (hpre vs h1 (fun z hz=>h2 z (by simp [hz])));have h4:vs.getD v.toNat 0=a:=h2 (Literal.mk v a) (by simp);exact wS h3 (by rw[h4];simp)
        refine cK.l q1 (cK.r q1 (cK.l hq0 (cK.r hq0 (cK.l hap (cK.r hap (cK.l (uP d' hsml (by omega)) (cK.r (xCn d' hsml (by omega)) (cK.l q1 (cK.r q1 ?_)))))))));refine cK.bnd (ih N (t+1) (ln'++[Line.mk 1 v a 0]) (d'.set v.toNat [a]) (c++[Literal.mk v a]) (xPa hm ht0 ht1) (by omega) (by omega) (by simp only[List.length_append,List.length_singleton];omega) hin (fun i b hb=>hrg' i b (hsub1 i b hb)) hcl2 hpre2 (by omega) (by omega)) (fun r r' hE=>?_);obtain⟨b,s2,l2,v2,c2,dd⟩:=r;obtain⟨b',s2',l2',v2',o2,dd'⟩:=r';obtain⟨E1,E2,E3,E4,E5,E6,E7,E8,E8f,E9,E10,E11,E12,E13⟩:=hE;simp only at E1 E2 E3 E4 E5 E6 E7 E8 E8f E9 E10 E11 E12 E13 ⊢;subst E1 E2 E3 E4
        cases b with
        | false=>
          simp only[Bool.not_false,if_true];refine cK.s ?_
          show cK (zR (some (.ret _)) _) (zR (some (.ret _)) _) _
          rw[thn_ret,thn_ret];have E8':=E8 rfl;refine cK.s ⟨rfl,rfl,rfl,rfl,E5,(fun h=>nomatch h),by simp only;omega,(fun _=>by simp only;omega),(fun h=>nomatch h),E9,E10,(fun h=>nomatch h),fun _=>⟨(E12 rfl).1,?_⟩,(fun h=>nomatch h)⟩;exact xCf (by rw[List.length_set];omega) (E12 rfl).2 (fun i b hb=>hsub' i b (hsub1 i b hb))
        | true=>
          simp only[Bool.not_true,Bool.false_eq_true,if_false];obtain⟨rfl,rfl⟩:=E5;have hv2:=E6 rfl;subst hv2;have hql:=hsml q hqm;have hqt:=pA hqm;have hno:=E11 rfl
          have hP1:2≤prd (d'.set v.toNat [a]):=by
            rcases Nat.lt_or_ge (prd (d'.set v.toNat [a])) 2 with h | h
            · exfalso
              have h1:=xHd (D:=d'.set v.toNat [a]) (by omega);refine hno _ (xHq (i:=v.toNat) (a:=a) hu hC (by omega) hrg' hF' hS' hvl (fun j hj hne=>?_) (by rw[hqg];exact haq)) (xJq hF')
              have h2:=h1 (d'.getD j []) (by
                have h3:(d'.set v.toNat [a])[j]?=some (d'.getD j []):=by rw[List.getElem?_set_ne (fun e=>hne e.symm),List.getD_eq_getElem?_getD,List.getElem?_eq_getElem hj];rfl
                exact List.mem_of_getElem? h3)
              exact h2
            · exact h
          have E8':=E8f rfl
          have hs2':s2'+1≤t+1+prd (d'.set v.toNat [a]):=by
            rcases E8' with h | h
            · omega
            · omega
          refine cK.l (sL q a hql (by omega)) (cK.r (sF q a hql) (cK.s ?_));obtain⟨sg2,i2',hb2,hlf3,hl2⟩:=E13 rfl;refine⟨⟨_,_,_,rfl,rfl,by omega,by omega,E9,hout2,by omega,.inr (by omega),(fun i b hb=>hsub' i b (hsub2 i b hb)),fun vs h1 h2=>?_,sg++([Line.mk 1 v a 0]++(sg2++[Line.mk 3 i2' 0 0])),Bal.pair hbal rfl hb2 rfl,LF.pair hlf2 hlf3 ⟨hcl2,fun vs h1 h2=>hno vs h1 (hpre2 vs h1 h2)⟩,?_⟩,by simp only;omega⟩
          · have h3:=hkeep' vs h1 h2
            refine wS h3 (List.mem_filter.2 ⟨?_,?_⟩)
            · have h4:=h3 v.toNat hvl;rwa [hqg] at h4
            · rw[bne_iff_ne]
              intro e;exact hno vs h1 (wS h3 (by rw[e];simp))
          · rw[hl2,hlns]
            simp only[List.append_assoc]
end Go.Proofs.YtncganhbpbehaaaGreat
namespace Go.Proofs.YtncganhbpbehaaaGreat
set_option linter.unusedVariables false
set_option linter.unusedSimpArgs false
theorem xAa {ρ:Type} {T:Int} {f:Nat→List (List Int)→Option (Ctl (List (List Int)) ρ)} {d:List Int} (hf:∀ k s,s.length≤1000→f k s=some (.go (s++[d]))):∀ (m k:Nat) (s:List (List Int)),s.length+m≤1000→aS f m k s=some (.nx (s++List.replicate m d))
  | 0,k,s,h=>by simp [aS]
  | m+1,k,s,h=>by
    rw[fQ (hf k s (by omega)),xAa (T:=T) hf m (k+1) _ (by simp;omega),List.replicate_succ,List.append_assoc]
    rfl
theorem uE {T:Nat} {t:Template} {y:Instance} (hu:TV T t) (hv:1≤y.vars∧y.vars≤10):kX t y=some (List.replicate y.vars.toNat (mR 0 T)):=by
  have hT:=hu.t
  unfold kX
  rw[xAa (T:=0) (d:=mR 0 T) (fun k s hs=>by
    rw[hu.s,xNd (by omega) (by omega),bnd_s,zX (by simp only[List.length_cons,List.length_nil];omega),bnd_s]) y.vars.toNat 0 [] (by simp only[List.length_nil];omega),thn_nx,List.nil_append]
theorem tW {T:Nat} {t:Template} {y:Instance} (hu:TV T t) (hv:1≤y.vars∧y.vars≤10):aQ t y=some (List.replicate y.vars.toNat (mR 0 T)):=by
  have hT:=hu.t
  unfold aQ
  rw[xAa (T:=0) (d:=mR 0 T) (fun k s hs=>by
    rw[hu.s,xJa (by omega),bnd_s,zX (by simp only[List.length_cons,List.length_nil];omega),bnd_s]) y.vars.toNat 0 [] (by simp only[List.length_nil];omega),thn_nx,List.nil_append]
theorem xMp (m:Nat) (d:List Int):tot (List.replicate m d)=m*d.length:=by
  unfold tot
  induction m with
  | zero=>simp
  | succ m ih=>rw[List.replicate_succ,List.map_cons,List.sum_cons,ih,Nat.succ_mul,Nat.add_comm]
theorem xGn (V:Int) (m:Nat):(mR V m).Nodup:=by
  unfold mR
  refine List.Pairwise.map _ (fun a b h=>?_) (List.nodup_range (n:=m));intro h2;exact h (by omega)
theorem xFn {m:Nat} {a:Int}:a∈mR 0 m↔0≤a∧a<(m:Int):=by
  unfold mR
  rw[List.mem_map]
  constructor
  · rintro ⟨i,hi,rfl⟩
    rw[List.mem_range] at hi
    omega
  · rintro ⟨h1,h2⟩
    exact⟨a.toNat,by rw[List.mem_range];omega,by omega⟩
theorem xKq {T:Nat} {t:Template} {y:Instance} (hu:TV T t) {c:Con} (h:CV t y.vars c) (hv:1≤y.vars):ConOk t c y.vars.toNat:=by
  obtain⟨h1,r,r0,r1,r2,r3⟩:=h;obtain⟨n,e,n1,n4,_,hm⟩:=hu.r r r2;exact⟨⟨r,gN r0 r1,fun a ha=>by have:=(iN.1 (hm a ha)).1;omega⟩,fun v hv=>by have:=h1 v hv;omega,by omega⟩
theorem xPp {T:Nat} {t:Template} {n:Int} (hu:TV T t) {c:Con} (h:CV t n c):CW t n c:=by
  obtain⟨h1,r,r0,r1,r2,r3⟩:=h;obtain⟨m,e,n1,n4,_,hm⟩:=hu.r r r2;exact⟨⟨h1,r,r0,r1,r2,r3⟩,by omega⟩
structure Ri (x:Template) (y:Instance):Prop where
  small:tU x
  val:pQ x y=true
  five:y.vars≤5
section
variable {x:Template} {y:Instance}
theorem Ri.temp (h:Ri x y):pD x=true:=by
  have:=h.val
  unfold pQ at this
  rw[Bool.and_eq_true] at this;exact this.1
theorem Ri.tv (h:Ri x y):TV x.size.toNat x:=xDm h.small h.temp
theorem Ri.vars (h:Ri x y):1≤y.vars∧y.vars≤10:=(wV h.val).1
theorem Ri.cons (h:Ri x y):y.cons.length≤24:=(wV h.val).2.1
theorem Ri.cv (h:Ri x y):∀ c∈y.cons,CV x y.vars c:=(wV h.val).2.2
theorem Ri.cok (h:Ri x y):∀ c∈y.cons,ConOk x c y.vars.toNat:=fun c hc=>xKq h.tv (h.cv c hc) h.vars.1
theorem Ri.size (h:Ri x y):1≤x.size∧x.size≤4:=by
  have h1:=h.tv.t;have h2:=h.tv.s
  omega
theorem Ri.inst (h:Ri x y):eI x y=some true∧kT x y=some true:=by
  have:=xDp (t:=x) (x:=y) h.small;rw[h.val] at this;exact this
theorem Ri.budget (h:Ri x y):bO x y 2000=some 0∧eS x y 2000=some 0:=by
  obtain⟨h1,h2⟩:=h.inst
  unfold bO eS
  rw[show(Template.mk x.size x.rels)=x from rfl,show(Instance.mk y.vars y.cons)=y from rfl,h1,h2,bnd_s,bnd_s,gJ,iO];exact⟨rfl,rfl⟩
def gX (x:Template) (y:Instance):List (List Int):=List.replicate y.vars.toNat (mR 0 x.size.toNat)
theorem xBs (x:Template) (y:Instance) {i:Nat} (h:i<y.vars.toNat):(gX x y).getD i []=mR 0 x.size.toNat:=by
  unfold gX
  rw[List.getD_eq_getElem?_getD,List.getElem?_replicate,if_pos h];rfl
theorem yV (h:0≤x.size):Rg x (gX x y):=fun i a ha=>by
  by_cases hi:i<y.vars.toNat
  · rw[xBs x y hi,xFn] at ha;omega
  · unfold gX at ha
    rw[List.getD_eq_getElem?_getD,List.getElem?_replicate,if_neg hi] at ha
    cases ha
theorem rB (h:Ri x y):DomOk y.vars.toNat 40 (gX x y):=by
  have hs:=h.size;have hv:=h.vars;refine⟨by simp [gX],fun d hd=>by rw[List.eq_of_mem_replicate hd];exact xGn _ _,?_⟩
  unfold gX
  rw[xMp,xDq];have:y.vars.toNat*x.size.toNat≤10*4:=Nat.mul_le_mul (by omega) (by omega)
  omega
theorem uI (h:Ri x y):prd (gX x y)≤1024:=by
  have hs:=h.size;have hv:=h.vars;have h5:=h.five
  unfold gX
  rw[xMu,xDq];have h1:x.size.toNat ^ y.vars.toNat≤4 ^ y.vars.toNat:=Nat.pow_le_pow_left (by omega) _;have h2:4 ^ y.vars.toNat≤4 ^ 5:=Nat.pow_le_pow_right (by omega) (by omega)
  omega
theorem lP (h:Ri x y) {vs:List Int} (hS:Sol x y vs):Fit (gX x y) vs:=fun i hi=>by
  have hl:(gX x y).length=y.vars.toNat:=(rB h).len;have hs:=h.size;rw[xBs x y (by omega),xFn];have h1:=hS.1
  have hm:vs.getD i 0∈vs:=by rw[List.getD_eq_getElem?_getD,List.getElem?_eq_getElem (by omega)];exact List.getElem_mem _
  have:=hS.2.1 _ hm
  omega
theorem xDg (h:Ri x y) {N:Nat} (hN:5100≤N) {dom:List (List Int)} (hok:DomOk y.vars.toNat 40 dom) (hrg:Rg x dom) {c:List Literal} (hcl:CL x y c) (hpre:∀ vs,Sol x y vs→tC c vs→Fit dom vs) (hp:prd dom≤1024) :
    ∃ st ln vl cd d d',eH N x y dom 2000=some ((x.size,x.rels,y.vars,y.cons,2000,st,ln,vl,cd),d)∧dO N x y dom 2000=some ((x,y,2000,st,ln,vl,false),cd,d')∧((cd=0∧Sol x y vl∧Fit dom vl)∨(cd=6∧vl=[]∧(∀ vs,Sol x y vs→¬ Fit dom vs)∧∃ seg i,Bal seg∧LF x y c seg∧ln=seg++[Line.mk 3 i 0 0]))∧ln.length≤43050∧vl.length≤10:=by
  have hv:=h.vars;obtain⟨⟨rb,st,ln,vl,cd,d⟩,⟨rb',st',ln',vl',ov,d'⟩,h1,h2,E1,E2,E3,E4,E5,E6,E7,E8,E8f,E9,E10,E11,E12,E13⟩:=xIm (bud:=2000) h.tv (by omega) rfl (by omega) h.cv h.cok (by omega) 2000 N 0 [] dom c (by omega) (by omega) (by omega) (by simp) hok hrg hcl hpre (by omega) (by omega);simp only at E1 E2 E3 E4 E5 E6 E7 E8 E8f E9 E10 E11 E12 E13;obtain⟨rfl,rfl⟩:=E5;subst E1 E2 E3 E4
  unfold eH dO
  rw[h1,h2,bnd_s,bnd_s];simp only
  cases rb with
  | true=>
    have hs:=E8f rfl;obtain⟨sg,i,b1,b2,b3⟩:=E13 rfl;exact⟨st',ln',vl',6,d,d',rfl,rfl,.inr ⟨rfl,E6 rfl,E11 rfl,sg,i,b1,b2,by simpa using b3⟩,by omega,by omega⟩
  | false=>
    have hs:=E8 rfl;exact⟨st',ln',vl',0,d,d',rfl,rfl,.inl ⟨rfl,E12 rfl⟩,by omega,by omega⟩
end
theorem yY (l:List Literal) (p:Literal→Bool) (f:Literal→Option Bool) (hf:∀ x∈l,f x=some (p x)):zL l f=some (l.any p):=by
  obtain⟨i,h1,h2⟩:=jL l p f hf;have h3:kS l f=some i:=h1
  unfold zL
  rw[h3,bnd_s,h2]
def tA (x:Template) (y:Instance) (l:Literal):Bool:=okV y.vars l.var && okV x.size l.value
theorem xDa {x:Template} {y:Instance} (hs:okS x.size=true) (hn:ck (y.vars - 1)=some (y.vars - 1)) (l:List Literal):aR x y l=some (l.all (tA x y))∧dE x y l=some (l.all (tA x y)):=by
  have key:(l.any fun a=>!tA x y a) = !(l.all (tA x y)):=by rw[List.all_eq_not_any_not,Bool.not_not]
  constructor
  · unfold aR
    rw[yY l (fun a=>!tA x y a) _ (fun a _=>by
      unfold fB tA
      simp only;rw[hn,bnd_s,gJ,bnd_s,yG hs]
      unfold okV
      cases (decide (0≤a.var) && decide (a.var≤y.vars - 1))<;>rfl),bnd_s,key,Bool.not_not]
  · unfold dE
    rw[dV (fun _ a=>if (!tA x y a) then some false else none) (fun j a hj=>by
      rw[hn,bnd_s,iO,bnd_s,ckS hs]
      unfold tA okV
      simp only[bnd_s,iO]
      cases (decide (0≤a.var) && decide (a.var≤y.vars - 1)) with
      | false=>rfl
      | true=>cases (decide (0≤a.value) && decide (a.value≤x.size - 1))<;>rfl),mM,key]
    cases l.all (tA x y)<;>rfl
theorem xLm {x:Template} {y:Instance} (l:List Literal):l.all (tA x y)=true↔CL x y l:=by
  rw[List.all_eq_true]
  unfold CL tA okV
  constructor
  · intro h a ha
    have:=h a ha;simp only[Bool.and_eq_true,decide_eq_true_eq] at this
    omega
  · intro h a ha
    have:=h a ha;simp only[Bool.and_eq_true,decide_eq_true_eq]
    omega
theorem sM {ρ ρ' : Type} {x : Template} {y : Instance} {n : Nat} (hn : (n : Int) = y.vars) : ∀ (l : List Literal) (k : Nat) (D : List (List Int)), CL x y l → DomOk n 40 D → cK (qT (σ := (List (List Int))) (ρ := ρ) (fun (k328 : Nat) (x330 : Literal) (s308 : (List (List Int))) =>
      xZ (ix s308 x330.var) fun z356=>
      xZ (zB z356 x330.value) fun z366=>
      if z366 then
        some (.go (s308.set (x330.var).toNat ([x330.value])))
      else
        some (.go (s308.set (x330.var).toNat ([])))) l k D) (qT (σ:=(List (List Int))) (ρ:=ρ') (fun(k272:Nat) (x274:Literal) (s260:(List (List Int)))=>
      xZ (ix s260 x274.var) fun z288=>
      xZ (dA z288 x274.value) fun z307=>
      if z307 then
        some (.go (s260.set (x274.var).toNat ([x274.value])))
      else
        some (.go (s260.set (x274.var).toNat ([])))) l k D) (xEi (fun s s'=>s=s'∧DomOk n 40 s∧(∀ i a,a∈s.getD i []→a∈D.getD i [])∧(∀ vs,Fit s vs↔Fit D vs∧tC l vs)) (fun _ _=>False))
  | [],_,D,_,h=>⟨_,_,rfl,rfl,rfl,h,(fun _ _ h=>h),fun vs=>⟨fun h=>⟨h,fun _ hl=>nomatch hl⟩,fun h=>h.1⟩⟩
  | a::l,k,D,hl,h=>by
    have ha:=hl a (by simp);have hlen:=h.len
    have hD:D[a.var.toNat]?=some (D.getD a.var.toNat []):=by
      rw[List.getD_eq_getElem?_getD,List.getElem?_eq_getElem (by omega)];rfl
    have hi:ix D a.var=some (D.getD a.var.toNat []):=ixD ha.1.1 (by omega)
    have fin:∀ (w:List Int),(∀ b∈w,b∈D.getD a.var.toNat []∧b=a.value)→(a.value∈D.getD a.var.toNat []→a.value∈w)→∀ {o:Option (Out (List (List Int)) ρ)} {o':Option (Out (List (List Int)) ρ')},cK o o' (xEi (fun s s'=>s=s'∧DomOk n 40 s∧(∀ i b,b∈s.getD i []→b∈(D.set a.var.toNat w).getD i [])∧(∀ vs,Fit s vs↔Fit (D.set a.var.toNat w) vs∧tC l vs)) (fun _ _=>False))→cK o o' (xEi (fun s s'=>s=s'∧DomOk n 40 s∧(∀ i b,b∈s.getD i []→b∈D.getD i [])∧(∀ vs,Fit s vs↔Fit D vs∧tC (a::l) vs)) (fun _ _=>False)):=fun w hw hw2 o o' hh=>by
      have hsub:=nX (w:=w) hD (fun b hb=>(hw b hb).1);refine hh.mono (fun s s' hs=>?_)
      cases s<;>cases s'<;>first | exact hs.elim | skip
      obtain⟨e,q1,q2,q3⟩:=hs;refine⟨e,q1,fun i b hb=>hsub i b (q2 i b hb),fun vs=>?_⟩;rw[q3 vs]
      constructor
      · rintro ⟨h1,h2⟩
        refine⟨xCf (by rw[List.length_set]) h1 hsub,fun z hz=>?_⟩
        rcases List.mem_cons.1 hz with rfl | hz
        · have h3:=h1 z.var.toNat (by rw[List.length_set];omega)
          rw[List.getD_eq_getElem?_getD (l:=D.set _ _),List.getElem?_set_self (by omega)] at h3;exact(hw _ h3).2
        · exact h2 z hz
      · rintro ⟨h1,h2⟩
        have h3:vs.getD a.var.toNat 0=a.value:=h2 a (by simp);have h4:=h1 a.var.toNat (by omega);exact⟨wS h1 (by rw[h3] at h4 ⊢;exact hw2 h4),fun z hz=>h2 z (by simp [hz])⟩
    cases hb:(D.getD a.var.toNat []).any (· == a.value) with
    | true=>
      obtain⟨z,hz,e⟩:=List.any_eq_true.1 hb;rw[beq_iff_eq] at e;subst e;have hlen1:1≤(D.getD a.var.toNat []).length:=List.length_pos_of_mem hz;rw[kB (s':=D.set a.var.toNat [a.value]) (by rw[hi,bnd_s,pT,bnd_s,hb];rfl),kB (s':=D.set a.var.toNat [a.value]) (by rw[hi,bnd_s,uN,bnd_s,hb];rfl)];exact fin [a.value] (fun b hb=>by rw[List.mem_singleton.1 hb];exact⟨hz,rfl⟩) (fun _=>by simp) (sM hn l (k+1) _ (fun c hc=>hl c (by simp [hc])) (h.set hD (by simp) (by simpa using hlen1)))
    | false=>
      rw[kB (s':=D.set a.var.toNat []) (by rw[hi,bnd_s,pT,bnd_s,hb];rfl),kB (s':=D.set a.var.toNat []) (by rw[hi,bnd_s,uN,bnd_s,hb];rfl)];refine fin [] (fun b hb=>nomatch hb) (fun hm=>?_) (sM hn l (k+1) _ (fun c hc=>hl c (by simp [hc])) (h.set hD (by simp) (by simp)));rw[List.any_eq_false] at hb;exact absurd (show(a.value==a.value)=true by simp) (hb _ hm)
theorem xHw {N:Nat} (hN:5100≤N) {x:Template} {y:Instance} (h:Ri x y) {l:List Literal} (hl:CL x y l):∃ r,eB N x y l 2000=some (r,0)∧fV N x y l 2000=some (r,0)∧(r=true↔∀ vs,Sol x y vs→¬ tC l vs):=by
  have hv:=h.vars;have d1:kX x y=some (gX x y):=uE h.tv hv;have d2:aQ x y=some (gX x y):=tW h.tv hv
  unfold eB fV
  rw[show(Template.mk x.size x.rels)=x from rfl,show(Instance.mk y.vars y.cons)=y from rfl,d1,d2,bnd_s,bnd_s];obtain⟨s,s',q1,q2,q3⟩:=sM (ρ:=Bool×Int) (ρ':=Bool×Int) (x:=x) (y:=y) (n:=y.vars.toNat) (by omega) l 0 (gX x y) hl (rB h);rw[q1,q2]
  cases s<;>cases s'<;>first | exact q3.elim | skip
  rename_i s s';obtain⟨rfl,hok,hsub,hfit⟩:=q3;rw[thn_nx,thn_nx];have hs0:=h.size;have hpl:prd s≤1024:=Nat.le_trans (xFv s (gX x y) (by rw[hok.len,(rB h).len]) (fun i=>yK hok.nd hsub i)) (uI h);obtain⟨st,ln,vl,cd,d,d',e1,e2,e3,e4,e5⟩:=xDg h hN hok (fun i a ha=>yV (y:=y) (by omega) i a (hsub i a ha)) hl (fun vs h1 h2=>(hfit vs).2 ⟨lP h h1,h2⟩) hpl;rw[e1,e2,bnd_s,bnd_s];simp only
  rcases e3 with ⟨rfl,h1,h2⟩ | ⟨rfl,rfl,h1,_⟩
  · refine⟨false,rfl,rfl,⟨(fun e=>by cases e),fun e=>?_⟩⟩
    exact absurd ((hfit vl).1 h2).2 (e vl h1)
  · exact⟨true,rfl,rfl,⟨fun _ vs hS hF=>h1 vs hS ((hfit vs).2 ⟨lP h hS,hF⟩),fun _=>rfl⟩⟩
theorem Ri.lits {x:Template} {y:Instance} (h:Ri x y) (l:List Literal):aR x y l=some (l.all (tA x y))∧dE x y l=some (l.all (tA x y)):=by
  have hv:=h.vars;have hs:=h.size;exact xDa (by unfold okS;simp;omega) (kE (by omega) (by omega)) l
theorem lM {N:Nat} (hN:5100≤N) {x:Template} {y:Instance} (h:Ri x y) {l:List Literal} (hl:CL x y l):∃ r,cZ N x y l 2000=some (r,0)∧gY N x y l 2000=some (r,0)∧(r=true↔∀ vs,Sol x y vs→¬ tC l vs):=by
  obtain⟨b1,b2⟩:=h.budget;obtain⟨l1,l2⟩:=h.lits l;obtain⟨r,r1,r2,r3⟩:=xHw hN h hl
  unfold cZ gY iV
  rw[show(Template.mk x.size x.rels)=x from rfl,show(Instance.mk y.vars y.cons)=y from rfl,b1,b2,bnd_s,bnd_s];rw[(xLm l).2 hl] at l1 l2;rw[if_neg (by simp),if_pos (by simp),l1,l2,bnd_s,bnd_s];simp only[Bool.not_true,Bool.false_eq_true,if_false,thn_nx,bnd_s,r1,r2];exact⟨r,rfl,rfl,r3⟩
end Go.Proofs.YtncganhbpbehaaaGreat
namespace Go.Proofs.YtncganhbpbehaaaGreat
set_option linter.unusedVariables false
set_option linter.unusedSimpArgs false
theorem xAg (c:List Literal) (h:c.length≤1048576):vD c=some c:=by
  unfold vD
  rw[zX (by simp only[List.length_nil];omega)]
  rfl
def Bad (x:Template) (y:Instance) (q:List Literal):Prop:=∀ vs,Sol x y vs→¬ tC q vs
theorem Bad.mono {x:Template} {y:Instance} {q r:List Literal} (h:Bad x y q) (hs:∀ a∈q,a∈r):Bad x y r:=fun vs h1 h2=>h vs h1 (fun a ha=>h2 a (hs a ha))
theorem xFh {α:Type} {left:List α} {j k:Nat} (hj:j<k) (hk:k<left.length):∀ z∈(left.take k++left.drop (k+1)).take j++(left.take k++left.drop (k+1)).drop (j+1),z∈left.take j++left.drop (j+1):=fun z hz=>by
  have hl:(left.take k).length=k:=by rw[List.length_take];omega
  rcases List.mem_append.1 hz with h | h
  · rw[List.take_append,hl,show j - k=0 by omega,List.take_zero,List.append_nil,List.take_take,Nat.min_eq_left (by omega)] at h
    exact List.mem_append_left _ h
  · rw[List.drop_append,hl,show j+1 - k=0 by omega,List.drop_zero] at h
    rcases List.mem_append.1 h with h | h
    · rw[List.drop_take] at h
      exact List.mem_append_right _ (List.mem_of_mem_take h)
    · refine List.mem_append_right _ ?_
      have:left.drop (k+1)=(left.drop (j+1)).drop (k - j):=by rw[List.drop_drop];congr 1;omega
      rw[this] at h;exact List.mem_of_mem_drop h
theorem tY {N:Nat} {x:Template} {y:Instance} (h:Ri x y) {l:List Literal} (hcl:CL x y l) (hl:l.length≤1000) (hN:5100≤N):∃ r c,dZ N x y l 2000=some (r,c)∧dS N x y l 2000=some (r,c)∧((c=4∧¬ Bad x y l)∨(c=0∧Bad x y l∧CL x y r∧Bad x y r∧r.Sublist l∧∀ j,j<r.length→¬ Bad x y (r.take j++r.drop (j+1)))):=by
  obtain⟨g,h1,h2,h3⟩:=lM (N:=N) (y:=y) hN h hcl
  unfold dZ dS
  rw[show(Template.mk x.size x.rels)=x from rfl,show(Instance.mk y.vars y.cons)=y from rfl,h1,h2,bnd_s,bnd_s];have e0:((0:Int) != 0)=false:=rfl;simp only[e0,Bool.false_eq_true,if_false]
  · cases g with
    | false=>exact⟨_,_,rfl,rfl,.inl ⟨rfl,fun hb=>nomatch h3.2 hb⟩⟩
    | true=>
      have hbad:Bad x y l:=h3.1 rfl
      have hap:ap ([]:List Literal) l=some l:=by rw[zX (by simp only[List.length_nil];omega)];rfl
      simp only[Bool.not_true,Bool.false_eq_true,if_false,xAg l (by omega),hap,bnd_s]
      have key:cK _ _ (fun(r r':List Literal×Int)=>r=r'∧r.2=0∧CL x y r.1∧Bad x y r.1∧r.1.Sublist l∧∀ j,j<r.1.length→¬ Bad x y (r.1.take j++r.1.drop (j+1))):=cK.thn (k:=fun(s:List Literal×Int)=>some (s.1,(0:Int))) (k':=fun(s:List Literal×Int)=>some (s.1,(0:Int))) (fun(t t':List Literal×Int)=>t=t'∧CL x y t.1∧Bad x y t.1∧t.1.Sublist l∧∀ j,j<t.1.length→¬ Bad x y (t.1.take j++t.1.drop (j+1))) (fun _ _=>False)
        (cK.whl (N:=N) (ρ:=List Literal×Int) (ρ':=List Literal×Int) (f:=fun(s:(List Literal)×Int)=>
      match s with
      | (s114,s119)=>
      if (decide (s119<(s114.length:Int))) then
       xZ (vD s114) fun z140=>
       xZ (ck (s119+1)) fun z154=>
       xZ (zI z140 s119 z154) fun z156=>
       xZ (eB N x y z156 2000) fun z178=>
       if (z178.2 != 0) then
        some (.ret ([],z178.2))
       else
        if z178.1 then
         some (.go (z156,s119))
        else
         some (.go (s114,z154))
      else
       some (.brk (s114,s119))) (g:=fun(s:(List Literal)×Int)=>
      match s with
      | (s155,s160)=>
      if (decide (s160<(s155.length:Int))) then
       xZ (sl s155 0 s160) fun z181=>
       xZ (ck (s160+1)) fun z187=>
       xZ (sl s155 z187 (s155.length:Int)) fun z189=>
       xZ (ap ([]) z181) fun z208=>
       xZ (ap z208 z189) fun z223=>
       xZ (fV N x y z223 2000) fun z237=>
       if (z237.2 != 0) then
        some (.ret ([],z237.2))
       else
        if z237.1 then
         some (.go (z223,s160))
        else
         some (.go (s155,z187))
      else
       some (.brk (s155,s160))) (s:=(l,0)) (s':=(l,0)) (fun s s'=>s=s'∧0≤s.2∧s.1.length≤1000∧CL x y s.1∧Bad x y s.1∧s.1.Sublist l∧∀ j:Nat,j<s.1.length→(j:Int)<s.2→¬ Bad x y (s.1.take j++s.1.drop (j+1))) _ _ (fun s=>s.1.length - s.2.toNat) (by simp only;omega) ⟨rfl,Int.le_refl _,hl,hcl,hbad,List.Sublist.refl _,fun j _ h=>by omega⟩ (fun s s' hR=>?_)) (fun t t' h=>⟨_,_,rfl,rfl,by rw[h.1],rfl,h.2⟩) (fun r r' h=>h.elim)
      · obtain⟨r,r',k1,k2,rfl,k3,k4,k5,k6,k7⟩:=key
        exact⟨r.1,r.2,k1,k2,.inr ⟨k3,hbad,k4,k5,k6,k7⟩⟩
      · obtain⟨left,i⟩:=s
        obtain⟨rfl,hi,hll,hla,hba,hsu,hmin⟩:=hR;simp only at hi hll hla hba hsu hmin ⊢
        by_cases hlt:i<(left.length:Int)
        · obtain⟨k,rfl⟩:∃ k:Nat,i=k:=⟨i.toNat,by omega⟩
          obtain⟨less,hless⟩:∃ q,q=left.take k++left.drop (k+1):=⟨_,rfl⟩
          have hle:less.length+1=left.length:=by rw[hless];simp;omega
          have hck:ck ((k:Int)+1)=some ((k:Int)+1):=kE (by omega) (by omega)
          have hdel:zI left (k:Int) ((k:Int)+1)=some less:=by
            unfold zI
            rw[if_pos ⟨by omega,by omega,by omega⟩,hless,Int.toNat_natCast,show((k:Int)+1).toNat=k+1 by omega]
          have hs1:sl left 0 (k:Int)=some (left.take k):=by
            unfold sl
            rw[if_pos ⟨by omega,by omega,by omega⟩]
            simp
          have hs2:sl left ((k:Int)+1) (left.length:Int)=some (left.drop (k+1)):=by
            unfold sl
            rw[if_pos ⟨by omega,by omega,by omega⟩,show((k:Int)+1).toNat=k+1 by omega]
            simp
          have hap1:ap ([]:List Literal) (left.take k)=some (left.take k):=by rw[zX (by simp;omega)];rfl
          have hap2:ap (left.take k) (left.drop (k+1))=some less:=by rw[zX (by simp;omega),hless]
          have hlm:∀ q∈less,q∈left:=fun q hq=>by
            rw[hless] at hq
            rcases List.mem_append.1 hq with h | h
            · exact List.mem_of_mem_take h
            · exact List.mem_of_mem_drop h
          have hal:CL x y less:=fun q hq=>hla q (hlm q hq);obtain⟨r,r1,r2,r3⟩:=xHw (N:=N) hN h hal
          have hd:decide ((k:Int)<(left.length:Int))=true:=by simpa using hlt
          simp only[hd,if_true,xAg left (by omega),bnd_s,hck,hdel,r1,hs1,hs2,hap1,hap2,r2];simp only[e0,Bool.false_eq_true,if_false]
          cases r with
          | true=>
            refine⟨_,_,rfl,rfl,⟨rfl,hi,(by show less.length≤1000;omega),hal,r3.1 rfl,(List.Sublist.trans ?_ hsu),fun j hj hjk hb=>?_⟩,by simp only[Int.toNat_natCast];omega⟩
            · show less.Sublist left
              rw[hless];have:=List.Sublist.append (List.Sublist.refl (left.take k)) (show(left.drop (k+1)).Sublist (left.drop k) by rw[List.drop_eq_getElem_cons (i:=k) (by omega)];exact List.sublist_cons_self _ _)
              rwa [List.take_append_drop] at this
            · simp only at hj hjk hb
              refine hmin j (by omega) hjk (hb.mono ?_);rw[hless];exact xFh (by omega) (by omega)
          | false=>
            refine⟨_,_,rfl,rfl,⟨rfl,by show(0:Int)≤(k:Int)+1;omega,hll,hla,hba,hsu,fun j hj hjk hb=>?_⟩,by simp only[Int.toNat_natCast];omega⟩;simp only at hj hjk hb
            by_cases hjk2:j=k
            · subst hjk2
              rw[← hless] at hb;exact nomatch r3.2 hb
            · exact hmin j hj (by omega) hb
        · have hd:decide (i<(left.length:Int))=false:=by simpa using hlt
          simp only[hd,Bool.false_eq_true,if_false];exact⟨_,_,rfl,rfl,rfl,hla,hba,hsu,fun j hj=>hmin j hj (by simp only at hj;omega)⟩
end Go.Proofs.YtncganhbpbehaaaGreat
namespace Go.Proofs.YtncganhbpbehaaaGreat
set_option linter.unusedVariables false
set_option linter.unusedSimpArgs false
def gL (k m:Nat):List Int:=(List.range' k m).map (fun(j:Nat)=>(j:Int))
theorem sK {ρ:Type} (g:Nat→Option Int) (hg:∀ k,k≤1048576→g k=some (k:Int)):∀ (m k:Nat) (s:List Int),s.length+m≤1048576→k+m≤1048576→aS (σ:=List Int) (ρ:=ρ) (fun(k:Nat) (s:List Int)=>xZ (g k) fun z=>xZ (ap s [z]) fun z2=>some (.go z2)) m k s=some (.nx (s++gL k m))
  | 0,_,s,_,_=>by simp [aS,gL]
  | m+1,k,s,h,h2=>by
    rw[fQ (s':=s++[(k:Int)]) (by rw[hg k (by omega),bnd_s,zX (by simp only[List.length_cons,List.length_nil];omega),bnd_s]),sK g hg m (k+1) _ (by simp only[List.length_append,List.length_singleton];omega) (by omega)]
    simp [gL,List.range'_succ]
theorem xGa (n:Nat) (h:n≤1000):fN 0 (n:Int)=some (gL 0 n)∧aL (n:Int)=some (gL 0 n):=by
  constructor
  · unfold fN
    rw[sK (fun k=>ck (0+(k:Int))) (fun k hk=>by rw[Int.zero_add];exact kE (by omega) (by omega)) _ 0 [] (by simp;omega) (by simp;omega),thn_nx]
    simp
  · have:=sK (ρ:=List Int) (fun k=>some (k:Int)) (fun k hk=>rfl) (n:Int).toNat 0 [] (by simp;omega) (by simp;omega)
    unfold aL
    have h2:aS (σ:=(List Int)) (ρ:=(List Int)) (fun(k48:Nat) (s38:(List Int))=>xZ (ap s38 ([(k48:Int)])) fun z60=>some (.go z60)) (n:Int).toNat 0 []=some (.nx ([]++gL 0 (n:Int).toNat)):=this;rw[h2,thn_nx]
    simp
def eL (y:Instance) (l:List Int):List Con:=l.map (fun k=>y.cons.getD k.toNat (Con.mk 0 []))
theorem ixC {l:List Con} {v:Int} (h0:0≤v) (h1:v<l.length):ix l v=some (l.getD v.toNat (Con.mk 0 [])):=by
  refine gN h0 ?_;rw[List.getD_eq_getElem?_getD,List.getElem?_eq_getElem (by omega)]
  rfl
theorem sJ {ρ:Type} (y:Instance):∀ (l:List Int) (k:Nat) (s:List Con),(∀ v∈l,0≤v∧v<y.cons.length)→s.length+l.length≤1048576→qT (σ:=List Con) (ρ:=ρ) (fun(k:Nat) (x:Int) (s:List Con)=>xZ (ix y.cons x) fun z=>xZ (ap s [z]) fun z2=>some (.go z2)) l k s=some (.nx (s++eL y l))
  | [],_,s,_,_=>by simp [eL]
  | v::l,k,s,hv,h=>by
    rw[List.length_cons] at h;have:=hv v (by simp);rw[kB (s':=s++[y.cons.getD v.toNat (Con.mk 0 [])]) (by rw[ixC this.1 this.2,bnd_s,zX (by simp only[List.length_cons,List.length_nil];omega),bnd_s]),sJ y l (k+1) _ (fun w hw=>hv w (by simp [hw])) (by simp only[List.length_append,List.length_singleton];omega)]
    simp [eL]
theorem own_loop {ρ:Type}:∀ (l:List Con) (k:Nat) (s:List Con),(∀ c∈l,c.scope.length≤1048576)→s.length+l.length≤1048576→qT (σ:=List Con) (ρ:=ρ) (fun(k:Nat) (x:Con) (s:List Con)=>xZ (vA x.scope) fun z=>xZ (ap s [Con.mk x.rel z]) fun z2=>some (.go z2)) l k s=some (.nx (s++l))
  | [],_,s,_,_=>by simp
  | c::l,k,s,hc,h=>by
    rw[List.length_cons] at h;rw[kB (s':=s++[c]) (by rw[rF _ (hc c (by simp)),bnd_s,zX (by simp only[List.length_cons,List.length_nil];omega),bnd_s]),own_loop l (k+1) _ (fun d hd=>hc d (by simp [hd])) (by simp only[List.length_append,List.length_singleton];omega)]
    simp
theorem xMa {y:Instance} {l:List Int} (hv:∀ v∈l,0≤v∧v<y.cons.length) (hl:l.length≤24) (hs:∀ c∈eL y l,c.scope.length≤1048576):lR y l=some (Instance.mk y.vars (eL y l))∧gG y l=some (Instance.mk y.vars (eL y l)):=by
  constructor
  · unfold lR
    rw[sJ y l 0 [] hv (by simp;omega),thn_nx]
    unfold bQ
    simp only[List.nil_append];rw[own_loop _ 0 [] hs (by simp [eL];omega),thn_nx]
    rfl
  · unfold gG
    rw[sJ y l 0 [] hv (by simp;omega),thn_nx]
    rfl
theorem Ri.some {x:Template} {y:Instance} (h:Ri x y) {cs:List Con} (hc:∀ c∈cs,c∈y.cons) (hl:cs.length≤24):Ri x (Instance.mk y.vars cs):=by
  refine⟨h.small,?_,h.five⟩;have:=h.val
  unfold pQ at this ⊢
  simp only[Bool.and_eq_true,decide_eq_true_eq,List.all_eq_true] at this ⊢;exact⟨this.1,this.2.1,by omega,fun c hcc=>this.2.2.2 c (hc c hcc)⟩
theorem Sol.less {x:Template} {v:Int} {cs ds:List Con} {vs:List Int} (h:Sol x (Instance.mk v cs) vs) (hd:∀ c∈ds,c∈cs):Sol x (Instance.mk v ds) vs:=⟨h.1,h.2.1,fun c hc=>h.2.2 c (hd c hc)⟩
theorem xFp {N:Nat} (hN:5100≤N) {x:Template} {y:Instance} (h:Ri x y):∃ l s cd q d,dI N x y 2000=some (l,s,cd)∧aQ x y=some (gX x y)∧dO N x y (gX x y) 2000=some (q,cd,d)∧((cd=0∧∃ vs,Sol x y vs)∨(cd=6∧∀ vs,¬ Sol x y vs)):=by
  have hv:=h.vars;have hs:=h.size;have d1:kX x y=some (gX x y):=uE h.tv hv;have d2:aQ x y=some (gX x y):=tW h.tv hv;obtain⟨st,ln,vl,cd,d,d',e1,e2,e3,e4,e5⟩:=xDg h hN (rB h) (yV (by omega)) (c:=[]) (fun _ hl=>nomatch hl) (fun vs hS _=>lP h hS) (uI h);refine⟨vl,st,cd,_,_,?_,d2,e2,?_⟩
  · unfold dI
    rw[show(Template.mk x.size x.rels)=x from rfl,show(Instance.mk y.vars y.cons)=y from rfl,h.budget.1,bnd_s,if_neg (by simp),d1,bnd_s,e1,bnd_s];simp only
    rcases e3 with ⟨rfl,_⟩ | ⟨rfl,_⟩<;>rfl
  · rcases e3 with ⟨rfl,h1,h2⟩ | ⟨rfl,_,h1,_⟩
    · exact .inl ⟨rfl,vl,h1⟩
    · exact .inr ⟨rfl,fun vs hS=>h1 vs hS (lP h hS)⟩
structure Rsn (x:Template) (y:Instance) (L:List Int):Prop where
  sub:L.Sublist (gL 0 y.cons.length)
  no:∀ vs,¬ Sol x (Instance.mk y.vars (eL y L)) vs
theorem xBj {y:Instance} {L M:List Int} (h:∀ a∈L,a∈M):∀ c∈eL y L,c∈eL y M:=fun c hc=>by
  unfold eL at hc ⊢
  obtain⟨v,hv,rfl⟩:=List.mem_map.1 hc;exact List.mem_map.2 ⟨v,h v hv,rfl⟩
theorem xGs {P R:List Int} {k:Int} (h1:∀ a∈P,a≠k) (h2:∀ a∈R,a≠k):(P++k::R).filter (· != k)=P++R:=by
  rw[List.filter_append,List.filter_cons];have e1:P.filter (· != k)=P:=List.filter_eq_self.2 (fun a ha=>by simpa using h1 a ha);have e2:R.filter (· != k)=R:=List.filter_eq_self.2 (fun a ha=>by simpa using h2 a ha);rw[e1,e2]
  simp
theorem xEz {N:Nat} (hN:5100≤N) {x:Template} {y:Instance} (hR:Ri x y):∀ (m k M:Nat) (P:List Int),k+m=y.cons.length→m<M→(∀ a∈P,0≤a∧a<(k:Int))→P.length≤k→Rsn x y (P++gL k m)→(∀ j,j<P.length→∃ vs,Sol x (Instance.mk y.vars (eL y ((P++gL k m).take j++(P++gL k m).drop (j+1)))) vs) →
    cK (qT (σ := (List Int)) (ρ := (List Int) × Int) (fun (k154 : Nat) (x156 : Con) (s140 : (List Int)) =>
          xZ (aP N s140 (k154:Int)) fun z160=>
          xZ (lR (Instance.mk y.vars y.cons) z160) fun z176=>
          xZ (dI N (Template.mk x.size x.rels) (Instance.mk z176.vars z176.cons) 2000) fun z199=>
          if (z199.2.2==7) then
            some (.ret ([],7))
          else
            if (z199.2.2==6) then
              some (.go z160)
            else
              some (.go s140)) (y.cons.drop k) k (P++gL k m))
      (fA (σ := (List Int) × Int) (ρ := (List Int) × Int) (fun (s : (List Int) × Int) =>
            match s with
            | (s348,s353)=>
              if (decide (s353<(s348.length:Int))) then
                xZ (sl s348 0 s353) fun z374=>
                xZ (ck (s353+1)) fun z380=>
                xZ (sl s348 z380 (s348.length:Int)) fun z382=>
                xZ (ap ([]) z374) fun z401=>
                xZ (ap z401 z382) fun z416=>
                xZ (gG (Instance.mk y.vars y.cons) z416) fun z430=>
                xZ (aQ (Template.mk x.size x.rels) (Instance.mk z430.vars z430.cons)) fun z459=>
                xZ (dO N (Template.mk x.size x.rels) (Instance.mk z430.vars z430.cons) z459 2000) fun z484=>
                if (z484.2.1==7) then
                  some (.ret ([],z484.2.1))
                else
                  if (z484.2.1==6) then
                    some (.go (z416,s353))
                  else
                    some (.go (s348,z380))
              else
                some (.brk (s348,s353))) M (P++gL k m,(P.length:Int)))
      (xEi (fun s s'=>s=s'.1∧Rsn x y s∧∀ j,j<s.length→∃ vs,Sol x (Instance.mk y.vars (eL y (s.take j++s.drop (j+1)))) vs) (fun _ _=>False)):=by
  have a4:=hR.cons;intro m
  induction m with
  | zero=>
    intro k M P hk hM hP hl hrs hmin;obtain⟨M,rfl⟩:∃ q,M=q+1:=⟨M - 1,by omega⟩;have e0:gL k 0=[]:=rfl;rw[e0,List.append_nil] at hrs hmin;rw[e0,List.append_nil,List.drop_eq_nil_of_le (by omega)];rw[fC (s':=(P,(P.length:Int))) (by simp)];exact⟨_,_,rfl,rfl,rfl,hrs,hmin⟩
  | succ m ih=>
    intro k M P hk hM hP hl hrs hmin;obtain⟨M,rfl⟩:∃ q,M=q+1:=⟨M - 1,by omega⟩
    have hkl:k<y.cons.length:=by omega
    have hnl:(gL (k+1) m).length=m:=by simp [gL]
    have en:gL k (m+1)=(k:Int)::gL (k+1) m:=by simp [gL,List.range'_succ]
    have hmem:∀ a∈gL (k+1) m,(k:Int)<a∧a<(y.cons.length:Int):=fun a ha=>by
      unfold gL at ha
      obtain⟨j,hj,rfl⟩:=List.mem_map.1 ha;rw[List.mem_range'_1] at hj
      omega
    obtain⟨R,hRR⟩:∃ R,R=gL (k+1) m:=⟨_,rfl⟩;rw[en,← hRR] at hrs hmin;rw[← hRR] at hmem hnl;have hless:(P++(k:Int)::R).filter (· != (k:Int))=P++R:=xGs (fun a ha=>by have:=hP a ha;omega) (fun a ha=>by have:=hmem a ha;omega)
    have hbnd:∀ v∈P++R,0≤v∧v<(y.cons.length:Int):=fun v hv=>by
      rcases List.mem_append.1 hv with h | h
      · have:=hP v h;omega
      · have:=hmem v h;omega
    have hin:∀ c∈eL y (P++R),c∈y.cons:=fun c hc=>by
      unfold eL at hc
      obtain⟨v,hv,rfl⟩:=List.mem_map.1 hc;have:=hbnd v hv;rw[List.getD_eq_getElem?_getD,List.getElem?_eq_getElem (by omega)];exact List.getElem_mem _
    have hpl:(eL y (P++R)).length≤24:=by simp [eL];omega
    have hval:=hR.some hin hpl
    have hlen:(P++R).length≤24:=by simp;omega
    obtain⟨k1,k2⟩:=xMa (y:=y) hbnd hlen (fun c hc=>by have:=(hR.cok c (hin c hc)).four;omega);obtain⟨lr,sr,cd,q,d,c1,c2,c3,c4⟩:=xFp (N:=N) hN hval
    have hwl:aP N (P++(k:Int)::R) (k:Int)=some (P++R):=by rw[sL _ _ (by simp;omega) (by simp;omega),hless]
    have hc0:y.cons.drop k=y.cons[k]::y.cons.drop (k+1):=List.drop_eq_getElem_cons hkl
    have s1:sl (P++(k:Int)::R) 0 (P.length:Int)=some P:=by
      unfold sl
      rw[if_pos ⟨by omega,by omega,by simp;omega⟩]
      simp
    have s2:sl (P++(k:Int)::R) ((P.length:Int)+1) ((P++(k:Int)::R).length:Int)=some R:=by
      unfold sl
      rw[if_pos ⟨by omega,by simp;omega,by omega⟩];simp only[Int.toNat_natCast,List.take_length];rw[show((P.length:Int)+1).toNat=P.length+1 by omega,List.drop_append,List.drop_eq_nil_of_le (by omega),List.nil_append,show P.length+1 - P.length=1 by omega]
      rfl
    rw[en,← hRR,hc0]
    have hdec:decide ((P.length:Int)<((P++(k:Int)::R).length:Int))=true:=by simp;omega
    have hck:ck ((P.length:Int)+1)=some ((P.length:Int)+1):=kE (by omega) (by omega)
    have hap1:ap ([]:List Int) P=some P:=by rw[zX (by simp only[List.length_nil];omega)];rfl
    have hap2:ap P R=some (P++R):=zX (by omega)
    rcases c4 with ⟨rfl,hsol⟩ | ⟨rfl,hno⟩
    ·
      rw[kB (s':=P++(k:Int)::R) (by rw[hwl,bnd_s,show(Instance.mk y.vars y.cons)=y from rfl,k1,bnd_s,show(Template.mk x.size x.rels)=x from rfl,c1,bnd_s];rfl)]
      rw[iA (s':=(P++(k:Int)::R,(P.length:Int)+1)) (by
        simp only[hdec,if_true,s1,bnd_s,hck,s2,hap1,hap2,show(Instance.mk y.vars y.cons)=y from rfl,k2,show(Template.mk x.size x.rels)=x from rfl,c2,c3]
        rfl)]
      have:=ih (k+1) M (P++[(k:Int)]) (by omega) (by omega) (fun a ha=>by
        rcases List.mem_append.1 ha with h | h
        · have:=hP a h;omega
        · rw[List.mem_singleton] at h;omega) (by simp;omega) (by rw[← hRR,List.append_assoc];exact hrs) (fun j hj=>by
        rw[← hRR,List.append_assoc,List.singleton_append]
        by_cases hjl:j<P.length
        · exact hmin j hjl
        · have e:j=P.length:=by rw[List.length_append,List.length_singleton] at hj;omega
          subst e;rw[List.take_left,List.drop_append,List.drop_eq_nil_of_le (by omega),List.nil_append,show P.length+1 - P.length=1 by omega]
          exact hsol)
      rw[← hRR] at this
      simpa using this
    ·
      rw[kB (s':=P++R) (by rw[hwl,bnd_s,show(Instance.mk y.vars y.cons)=y from rfl,k1,bnd_s,show(Template.mk x.size x.rels)=x from rfl,c1,bnd_s];rfl)]
      rw[iA (s':=(P++R,(P.length:Int))) (by
        simp only[hdec,if_true,s1,bnd_s,hck,s2,hap1,hap2,show(Instance.mk y.vars y.cons)=y from rfl,k2,show(Template.mk x.size x.rels)=x from rfl,c2,c3]
        rfl)]
      have hsl:(P++R).Sublist (P++(k:Int)::R):=List.Sublist.append (List.Sublist.refl P) (List.sublist_cons_self _ _)
      have hPR:P++R=(P++(k:Int)::R).take P.length++(P++(k:Int)::R).drop (P.length+1):=by
        rw[List.take_left,List.drop_append,List.drop_eq_nil_of_le (by omega),List.nil_append,show P.length+1 - P.length=1 by omega]
        rfl
      have:=ih (k+1) M P (by omega) (by omega) (fun a ha=>by have:=hP a ha;omega) (by omega) (by rw[← hRR];exact⟨hsl.trans hrs.sub,hno⟩) (fun j hj=>by
        rw[← hRR];obtain⟨vs,hvs⟩:=hmin j hj;refine⟨vs,hvs.less (xBj ?_)⟩;rw[hPR]
        exact xFh hj (by simp))
      rw[← hRR] at this;exact this
theorem yH (n:Nat):(gL 0 n).length=n:=by simp [gL]
theorem xBk (y:Instance):eL y (gL 0 y.cons.length)=y.cons:=by
  unfold eL gL
  apply List.ext_getElem?
  intro k;rw[List.map_map,List.getElem?_map]
  by_cases hk:k<y.cons.length
  · rw[List.getElem?_range' (by simpa using hk),List.getElem?_eq_getElem hk]
    show some (y.cons.getD (((0+1*k:Nat):Int)).toNat (Con.mk 0 []))=_
    rw[show(((0+1*k:Nat):Int)).toNat=k by omega,List.getD_eq_getElem?_getD,List.getElem?_eq_getElem hk];rfl
  · rw[List.getElem?_eq_none (by simp;omega),List.getElem?_eq_none (by omega)];rfl
theorem sR {N:Nat} (hN:5100≤N) {x:Template} {y:Instance} (h:Ri x y):∃ l c,cP N x y 2000=some (l,c)∧cO N x y 2000=some (l,c)∧l.length≤24∧((c=4∧∃ vs,Sol x y vs)∨(c=0∧(∀ vs,¬ Sol x y vs)∧Rsn x y l∧∀ j,j<l.length→∃ vs,Sol x (Instance.mk y.vars (eL y (l.take j++l.drop (j+1)))) vs)):=by
  have a4:=h.cons;obtain⟨lr,sr,cd,q,d,c1,c2,c3,c4⟩:=xFp (N:=N) hN h;obtain⟨u1,u2⟩:=xGa y.cons.length (by omega)
  unfold cP cO
  rw[show(Template.mk x.size x.rels)=x from rfl,show(Instance.mk y.vars y.cons)=y from rfl,c1,bnd_s,h.budget.2,bnd_s];have e0:((0:Int) != 0)=false:=rfl;have e1:((6:Int)==0)=false:=rfl;have e2:((6:Int)==6)=true:=rfl;have e3:((6:Int)==7)=false:=rfl;have e4:((6:Int) != 0)=true:=rfl;rw[e0];simp only[Bool.false_eq_true,if_false];rw[c2,bnd_s,c3,bnd_s];simp only
  rcases c4 with ⟨rfl,hs⟩ | ⟨rfl,hno⟩
  · exact⟨_,_,rfl,rfl,by simp,.inl ⟨rfl,hs⟩⟩
  · rw[u1,u2]
    simp only[bnd_s];have q:=xEz (N:=N) hN h y.cons.length 0 N [] (by omega) (by omega) (fun a ha=>nomatch ha) (Nat.le_refl _) ⟨List.Sublist.refl _,fun vs hS=>hno vs (by rw[List.nil_append,xBk] at hS;exact hS)⟩ (fun j hj=>by simp at hj);simp only[List.drop_zero,List.nil_append,List.length_nil] at q;obtain⟨a,b,t1,t2,t3⟩:=cK.thn (P:=fun(a b:List Int×Int)=>a=b∧a.2=0∧Rsn x y a.1∧∀ j,j<a.1.length→∃ vs,Sol x (Instance.mk y.vars (eL y (a.1.take j++a.1.drop (j+1)))) vs) (k:=fun s=>some (s,0)) (k':=fun s=>some (s.1,0)) _ _ q (fun a b h=>⟨_,_,rfl,rfl,by rw[h.1],rfl,h.2⟩) (fun a b h=>h.elim);obtain⟨rfl,t3,t4,t5⟩:=t3;exact⟨a.1,a.2,t1,t2,by have:=t4.sub.length_le;rw[yH] at this;omega,.inr ⟨t3,hno,t4,t5⟩⟩
end Go.Proofs.YtncganhbpbehaaaGreat
namespace Go.Proofs.YtncganhbpbehaaaGreat
set_option linter.unusedVariables false
set_option linter.unusedSimpArgs false
def Okl:List Line→Nat→Prop
  | [],_=>True
  | x::l,d=>if x.kind=1 then Okl l (d+1) else if x.kind=3 then 1≤d∧Okl l (d - 1) else Okl l d
theorem Bal.okl {s:List Line} (h:Bal s):∀ (l:List Line) (d:Nat),Okl l d→Okl (s++l) d:=by
  induction h with
  | nil=>intro l d h;exact h
  | two h h1 h3 ih=>
    intro l d hl;rw[List.append_assoc];refine ih _ d ?_;rw[List.singleton_append,Okl,if_neg h1,if_neg h3];exact hl
  | pair h1 hx h2 hz ih1 ih2=>
    intro l d hl;rw[List.append_assoc,List.append_assoc,List.append_assoc,List.singleton_append,List.singleton_append];refine ih1 _ d ?_;rw[Okl,if_pos hx];refine ih2 _ (d+1) ?_;rw[Okl,if_neg (by rw[hz];decide),if_pos hz];exact⟨by omega,hl⟩
theorem xMg (c:List Literal) (h:1≤c.length):sl c 0 ((c.length:Int) - 1)=some c.dropLast:=by
  unfold sl
  rw[if_pos ⟨by omega,by omega,by omega⟩];rw[List.dropLast_eq_take,show((c.length:Int) - 1).toNat=c.length - 1 by omega]
  rfl
theorem xIx (c:List Literal) (h:c.length≤1048576):vD c=some c:=by
  unfold vD
  rw[zX (by simp only[List.length_nil];omega)]
  rfl
theorem nR {ρ:Type}:∀ (l:List Line) (k:Nat) (o:List (List Literal)) (c:List Literal),Okl l c.length→o.length+l.length≤1000000→c.length+l.length≤1000000 →
    qT (σ:=(List (List Literal))×(List Literal)) (ρ:=ρ) (fun(k325:Nat) (x327:Line) (s:(List (List Literal))×(List Literal))=>
     match s with
     | (s295,s302)=>
     if (x327.kind==1) then
      xZ (ap s302 ([(Literal.mk x327.var x327.value)])) fun z369=>
      some (.go (s295,z369))
     else
      if (x327.kind==3) then
       xZ (vD s302) fun z378=>
       xZ (ap s295 ([z378])) fun z405=>
       xZ (ck ((s302.length:Int) - 1)) fun z417=>
       xZ (sl s302 0 z417) fun z419=>
       some (.go (z405,z419))
      else
       some (.go (s295,s302))) l k (o,c)=some (.nx (sA l (o,c)))
  | [],_,_,_,_,_,_=>rfl
  | x::l,k,o,c,h,h1,h2=>by
    rw[List.length_cons] at h1 h2
    unfold Okl at h
    by_cases hx1:x.kind=1
    · rw[if_pos hx1] at h
      rw[kB (s':=(o,c++[Literal.mk x.var x.value])) (by
        simp only[hx1,beq_self_eq_true,if_true,zX (l:=c) (m:=[Literal.mk x.var x.value]) (by simp only[List.length_singleton];omega),bnd_s])]
      rw[nR l (k+1) o (c++[Literal.mk x.var x.value]) (by rw[List.length_append];exact h) (by omega) (by simp;omega)]
      show _=some (Out.nx (sA l (sZ (o,c) x)))
      rw[sZ,if_pos hx1]
    · rw[if_neg hx1] at h
      have e1:(x.kind==1)=false:=by simpa using hx1
      by_cases hx3:x.kind=3
      · rw[if_pos hx3] at h
        have e3:(x.kind==3)=true:=by simpa using hx3
        rw[kB (s':=(o++[c],c.dropLast)) (by
          simp only[e1,e3,Bool.false_eq_true,if_false,if_true,xIx c (by omega),bnd_s,zX (l:=o) (m:=[c]) (by simp only[List.length_singleton];omega),kE (x:=(c.length:Int) - 1) (by omega) (by omega),xMg c h.1])]
        rw[nR l (k+1) (o++[c]) c.dropLast (by rw[List.length_dropLast];exact h.2) (by simp;omega) (by simp;omega)]
        show _=some (Out.nx (sA l (sZ (o,c) x)))
        rw[sZ,if_neg hx1,if_pos hx3]
      · rw[if_neg hx3] at h
        have e3:(x.kind==3)=false:=by simpa using hx3
        rw[kB (s':=(o,c)) (by simp only[e1,e3,Bool.false_eq_true,if_false])];rw[nR l (k+1) o c h (by omega) (by omega)]
        show _=some (Out.nx (sA l (sZ (o,c) x)))
        rw[sZ,if_neg hx1,if_neg hx3]
theorem xGk {N:Nat} (hN:5100≤N) {x:Template} {y:Instance} (h:Ri x y):∃ L c,cQ N x y 2000=some (L,c)∧((c=6∧∃ vs,Sol x y vs)∨(c=3∧∀ vs,¬ Sol x y vs)∨(c=0∧(∀ vs,¬ Sol x y vs)∧L.length≤4000∧∃ seg i,Bal seg∧LF x y [] seg∧L=seg++[Line.mk 3 i 0 0])):=by
  have hv:=h.vars;have hs:=h.size;obtain⟨b1,b2⟩:=h.budget;have d1:kX x y=some (gX x y):=uE h.tv hv;have d2:aQ x y=some (gX x y):=tW h.tv hv;obtain⟨st,ln,vl,cd,d,d',e1,e2,e3,e4,e5⟩:=xDg h hN (rB h) (yV (by omega)) (c:=[]) (fun _ hl=>nomatch hl) (fun vs hS _=>lP h hS) (uI h)
  unfold cQ
  rw[show(Template.mk x.size x.rels)=x from rfl,show(Instance.mk y.vars y.cons)=y from rfl,b1,bnd_s,if_neg (by simp),d1,bnd_s,e1,bnd_s];simp only
  rcases e3 with ⟨rfl,h1,h2⟩ | ⟨rfl,rfl,h1,h2⟩
  · exact⟨_,_,rfl,.inl ⟨rfl,vl,h1⟩⟩
  · have hno:∀ vs,¬ Sol x y vs:=fun vs hS=>h1 vs hS (lP h hS)
    by_cases hl:4000<(ln.length:Int)
    · have:decide (4000<(ln.length:Int))=true:=by simpa using hl
      rw[this];exact⟨_,_,rfl,.inr (.inl ⟨rfl,hno⟩)⟩
    · have:decide (4000<(ln.length:Int))=false:=by simpa using hl
      rw[this];exact⟨_,_,rfl,.inr (.inr ⟨rfl,hno,by omega,h2⟩)⟩
theorem xIl {N:Nat} (hN:5100≤N) {x:Template} {y:Instance} (h:Ri x y):∃ l c,dX N x y 2000=some (l,c)∧l.length≤200∧((c=6∧∃ vs,Sol x y vs)∨((c=0∨c=3)∧(∀ vs,¬ Sol x y vs)∧∀ q∈l,NG x y q)):=by
  obtain⟨L,c,h1,h3⟩:=xGk hN h
  unfold dX
  rw[show(Template.mk x.size x.rels)=x from rfl,show(Instance.mk y.vars y.cons)=y from rfl,h1,bnd_s]
  rcases h3 with ⟨rfl,h3⟩ | ⟨rfl,h3⟩ | ⟨rfl,hno,hlen0,seg,i,hb,hlf,hL⟩
  · exact⟨_,_,rfl,by simp,.inl ⟨rfl,h3⟩⟩
  · exact⟨_,_,rfl,by simp,.inr ⟨.inr rfl,h3,fun q hq=>nomatch hq⟩⟩
  · have e0:((0:Int) != 0)=false:=rfl
    have hlen:L.length=seg.length+1:=by rw[hL];simp
    have hok:Okl seg 0:=by have:=hb.okl [] 0 trivial;rwa [List.append_nil] at this
    have hsl:sl L 0 ((L.length:Int) - 1)=some seg:=by
      unfold sl
      rw[if_pos ⟨by omega,by omega,by omega⟩,show((L.length:Int) - 1).toNat=seg.length by omega,hL]
      simp
    have hf:=nR (ρ:=List (List Literal)×Int) seg 0 [] [] hok (by simp;omega) (by simp;omega);have hck:ck ((L.length:Int) - 1)=some ((L.length:Int) - 1):=kE (by omega) (by omega);simp only[e0,Bool.false_eq_true,if_false,hck,bnd_s,hsl];rw[hf];obtain⟨os,eo,hos⟩:=hlf [];rw[eo];simp only[thn_nx,List.nil_append]
    by_cases hl:200<(os.length:Int)
    · have:decide (200<(os.length:Int))=true:=by simpa using hl
      rw[this];exact⟨_,_,rfl,by simp,.inr ⟨.inr rfl,hno,fun q hq=>nomatch hq⟩⟩
    · have:decide (200<(os.length:Int))=false:=by simpa using hl
      rw[this];exact⟨_,_,rfl,by omega,.inr ⟨.inl rfl,hno,hos⟩⟩
end Go.Proofs.YtncganhbpbehaaaGreat
