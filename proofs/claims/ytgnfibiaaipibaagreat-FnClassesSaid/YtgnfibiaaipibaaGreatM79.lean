import Derived.Test.YtgnfibiaaipibaaGreatM83
namespace Go.Proofs.YtgnfibiaaipibaaGreat
set_option linter.unusedVariables false
set_option linter.unusedSimpArgs false
theorem whl_all {α ρ:Type} (L:List α) (p:α→Bool) {b:Bool×Int→Option (Ctl (Bool×Int) ρ)}
    (h1:∀ (i:Nat) t,L[i]?=some t→b (true,(i:Int))=some (.go (p t,((i+1:Nat):Int))))
    (h2:∀ (f:Bool) (i:Nat),(f=false∨L.length≤i)→b (f,(i:Int))=some (.brk (f,(i:Int)))) :
    ∀ (r:List α) (i N:Nat),L.drop i=r→r.length+2≤N→∃ j:Nat,cF b N (true,(i:Int))=some (.nx (r.all p,(j:Int)))
  | [],i,N,hr,hN=>by
    obtain⟨M,rfl⟩:∃ M,N=M+1:=⟨N - 1,by omega⟩;have hl:=congrArg List.length hr;rw[List.length_drop] at hl;rw[bY (h2 true i (.inr (by simp at hl;omega)))];exact⟨i,rfl⟩
  | t::r,i,N,hr,hN=>by
    obtain⟨M,rfl⟩:∃ M,N=M+1:=⟨N - 1,by omega⟩
    have ht:L[i]?=some t:=by rw[← List.head?_drop,hr];rfl
    have hd:L.drop (i+1)=r:=by rw[← List.drop_drop,hr];rfl
    rw[fC (h1 i t ht)]
    by_cases hp:p t=true
    · rw[hp]
      obtain⟨j,hj⟩:=whl_all L p h1 h2 r (i+1) M hd (by simp at hN;omega);exact⟨j,by rw[hj];simp [hp]⟩
    · have hp':p t=false:=by simpa using hp
      rw[hp'];obtain⟨K,rfl⟩:∃ K,M=K+1:=⟨M - 1,by simp at hN;omega⟩;rw[bY (h2 false (i+1) (.inl rfl))];exact⟨i+1,by simp [hp']⟩
def hitB (t:List Int) (i j a b:Int) (k:Nat) (v:Int):Bool:=(v==i && t.getD k 0 != a) || (v==j && t.getD k 0 != b)
def hitsB (i j a b:Int) (t:List Int):List Int→Nat→Bool
  | [],_=>false
  | v::l,k=>hitB t i j a b k v || hitsB i j a b t l (k+1)
def tupB (c:Con) (i j a b:Int) (t:List Int):Bool:=!hitsB i j a b t c.scope 0 && agB c.scope t
theorem hit_eq {ρ : Type} {t : List Int} {i j a b v : Int} {k : Nat} (hk : k < t.length) : (if (v == i) then xY (ix t (k : Int)) fun z114 =>
      if (z114 != a) then some (Out.nx true) else if (v==j) then some (Out.nx (z114 != b)) else some (Out.nx (σ:=Bool) (ρ:=ρ) false) else if (v==j) then xY (ix t (k:Int)) fun z129=>
       some (.nx (z129 != b)) else some (.nx false))=some (.nx (hitB t i j a b k v)):=by
  rw[eF hk,bnd_s,bnd_s]
  unfold hitB
  generalize t.getD k 0=x
  cases (v==i)<;>cases (v==j)<;>cases (x != a)<;>simp
theorem fnd_hits {i j a b:Int} {t:List Int}:∀ (l:List Int) (k:Nat),fnd (fun k v=>if hitB t i j a b k v then some false else none) l k=if hitsB i j a b t l k then some false else none
  | [],_=>rfl
  | v::l,k=>by
    unfold fnd hitsB
    cases h:hitB t i j a b k v
    · simp only[Bool.false_eq_true,if_false,Bool.false_or];exact fnd_hits l (k+1)
    · simp
theorem allows1_eq {c:Con} {i j a b:Int} {t:List Int} (h:t.length=c.scope.length):dM t c i a j b=some (tupB c i j a b t):=by
  unfold dM
  rw[aP (fun k v=>if hitB t i j a b k v then some false else none) (fun p v hp=>by
    have hpl:=(List.getElem?_eq_some_iff.1 hp).1;rw[Nat.zero_add];simp only;rw[hit_eq (by omega),thn_nx]
    cases hitB t i j a b p v<;>rfl),fnd_hits]
  unfold tupB
  cases hitsB i j a b t c.scope 0
  · show xY _ _=_
    rw[agrees_eq c t h,bnd_s]
    simp
  · simp [outO]
theorem tells_loop {ρ : Type} {i j a b : Int} {t : List Int} : ∀ (l : List Int) (k : Nat) (s : Bool), k + l.length ≤ t.length → qJ (σ := Bool) (ρ := ρ) (fun (k542 : Nat) (x544 : Int) (s540 : Bool) =>
       vT (σ:=Bool) (
        if (x544==i) then  xY (ix t (k542:Int)) fun z635=>
         if (z635 != a) then  some (.nx true) else  if (x544==j) then  some (.nx (z635 != b)) else  some (.nx false) else  if (x544==j) then  xY (ix t (k542:Int)) fun z676=>
          some (.nx (z676 != b)) else  some (.nx false)) fun s618=>
       if s618 then
        some (.go false)
       else
        some (.go s540)) l k s=some (.nx (s && !hitsB i j a b t l k))
  | [],k,s,_=>by simp [qJ,hitsB]
  | v::l,k,s,h=>by
    rw[List.length_cons] at h
    rw[dC (s':=s && !hitB t i j a b k v) (by
      rw[hit_eq (by omega),thn_nx]
      cases hitB t i j a b k v<;>simp),tells_loop l (k+1) _ (by omega)]
    rw[show hitsB i j a b t (v::l) k=(hitB t i j a b k v || hitsB i j a b t l (k+1)) from rfl]
    cases s<;>cases hitB t i j a b k v<;>rfl
def allowB (u:Template) (i j a b:Int) (c:Con):Bool:=if !(c.scope.any (· == i)) && !(c.scope.any (· == j)) then true else (u.rels.getD c.rel.toNat default).tuples.any (tupB c i j a b)
theorem allows_two {T:Nat} {u:Template} {n:Int} {c:Con} (i j a b:Int) (hu:TV T u) (hc:CV u n c):dG c u i j a b=some (allowB u i j a b c)∧eA u c i j a b=some (allowB u i j a b c):=by
  obtain⟨hsc,r,r0,r1,r2,r3⟩:=hc;obtain⟨m,e,n1,n4,hasc,hm⟩:=hu.r r r2
  have hl:∀ t∈r.tuples,t.length=c.scope.length:=fun t ht=>by have:=(dN.1 (hm t ht)).1;omega
  have hg:u.rels.getD c.rel.toNat default=r:=by rw[List.getD_eq_getElem?_getD,r1];rfl
  unfold dG eA allowB
  rw[hg,contains_eq,contains_eq,l00Has_eq,l00Has_eq];simp only[bnd_s]
  have e1:(vT (σ:=Bool) (ρ:=Bool) (if (!(c.scope.any (· == i))) then some (.nx (!(c.scope.any (· == j)))) else some (.nx false)))=fun k=>k (!(c.scope.any (· == i)) && !(c.scope.any (· == j))):=by
    funext k
    cases c.scope.any (· == i)<;>rfl
  rw[e1]
  cases (!(c.scope.any (· == i)) && !(c.scope.any (· == j))) with
  | true=>exact⟨rfl,rfl⟩
  | false=>
    simp only[if_neg (show ¬ (false=true) by simp),iM r0 r1,bnd_s]
    constructor
    · rw[containsL_eq _ (tupB c i j a b) _ (fun t ht=>allows1_eq (c:=c) (hl t ht)),bnd_s]
    · rw[aP (fun _ t=>if tupB c i j a b t then some true else none) (fun p t hp=>by
        have ht:=hl t (List.mem_of_getElem? hp);rw[whole_eq c t ht,bnd_s,tells_loop c.scope 0 _ (by omega),thn_nx]
        unfold tupB
        cases agB c.scope t<;>cases hitsB i j a b t c.scope 0<;>rfl),fnd_any]
      cases r.tuples.any (tupB c i j a b)<;>rfl
def pairW (u:Template) (y:Instance) (i j:Int) (d:List Int):Bool:=y.cons.all (allowB u i j (d.getD 0 0) (d.getD 1 0))
def pairR (u:Template) (y:Instance) (i j:Int):Rel:=⟨2,(aQ 2 2).filter (pairW u y i j)⟩
theorem relPair_eq {N:Nat} {u:Template} {y:Instance} (hu:TV 2 u) (hC:∀ c∈y.cons,CV u y.vars c) (hN:10≤N) (i j:Int):eY N u.size 2 (fun a0=>aO a0 (Instance.mk y.vars y.cons) (Template.mk u.size u.rels) i j)=some (pairR u y i j):=by
  have h:=relOf_eq (N:=N) (T:=2) (n:=2) (by omega) (by omega) hN (is:=fun a0=>aO a0 (Instance.mk y.vars y.cons) (Template.mk u.size u.rels) i j) (pairW u y i j) (fun d hd=>by
    have hl:=(dN.1 hd).1
    unfold aO
    rw[containsC_eq y.cons (fun c=>!allowB u i j (d.getD 0 0) (d.getD 1 0) c) _ (fun c hc=>by
      unfold eH
      have h0:ix d 0=some (d.getD 0 0):=eF (k:=0) (by omega);have h1:ix d 1=some (d.getD 1 0):=eF (k:=1) (by omega);rw[h0,h1,bnd_s,bnd_s];have h2:dG (Con.mk c.rel c.scope) (Template.mk u.size u.rels) i j (d.getD 0 0) (d.getD 1 0)=some (allowB u i j (d.getD 0 0) (d.getD 1 0) c):=(allows_two i j _ _ hu (hC c hc)).1
      rw[h2,bnd_s]),bnd_s,← List.not_all_eq_any_not,Bool.not_not]
    rfl)
  rw[hu.s];exact h
theorem four_at:∀ k:Nat,k<4→(aQ 2 2)[k]?=some [(k:Int).tdiv 2,(k:Int).tmod 2]:=by decide
theorem four_dv:∀ k:Nat,k<4→dv (k:Int) 2=some ((k:Int).tdiv 2):=by decide
theorem first_whl {N:Nat} {u:Template} {y:Instance} {ρ:Type} (hu:TV 2 u) (hy:y.cons.length≤24) (hC:∀ c∈y.cons,CV u y.vars c) (hN:100≤N) (i j:Int):∀ (M k:Nat) (s:List (List Int)),4 - k<M→k≤4→s.length≤k →
    cF (σ:=Int×(List (List Int))) (ρ:=ρ) (fun(s:Int×(List (List Int)))=>
        match s with
        | (s1438,s1440)=>
        xY (ck (u.size*u.size)) fun z1460=>
        if (decide (s1438<z1460)) then
         xY (dv s1438 u.size) fun z1466=>
         xY (rm s1438 u.size) fun z1471=>
         vT (σ:=Bool×Int) (
          cF (σ:=Bool×Int) (ρ:=(Ctl (Int×(List (List Int))) ρ)) (fun(s:Bool×Int)=>
            match s with
            | (s1511,s1512)=>
            vT (σ:=Bool) (
             if (decide (s1512<(y.cons.length:Int))) then  some (.nx s1511) else  some (.nx false)) fun s1532=>
            if s1532 then
             xY (ix y.cons s1512) fun z1544=>
             xY (eA u z1544 i j z1466 z1471) fun z1548=>
             xY (ck (s1512+1)) fun z1550=>
             some (.go (z1548,z1550))
            else
             some (.brk (s1511,s1512))) N (true,0)) fun(s1514,s1515)=>
         if s1514 then
          xY (ap s1440 ([[z1466,z1471]])) fun z1557=>
          xY (ck (s1438+1)) fun z1561=>
          some (.go (z1561,z1557))
         else
          xY (ck (s1438+1)) fun z1563=>
          some (.go (z1563,s1440))
        else
         some (.brk (s1438,s1440))) M ((k:Int),s)=some (.nx (4,s++((aQ 2 2).drop k).filter (pairW u y i j))):=by
  intro M
  induction M with
  | zero=>intro k s h;omega
  | succ M ih=>
    intro k s hM hk hs;have hsz:u.size=2:=hu.s;have h4:ck ((2:Int)*2)=some 4:=rfl
    rcases Nat.lt_or_ge k 4 with hlt | hge
    · have hat:=four_at k hlt
      have hd:(aQ 2 2).drop k=[(k:Int).tdiv 2,(k:Int).tmod 2]::(aQ 2 2).drop (k+1):=by
        have hl:k<(aQ 2 2).length:=by show k<4;exact hlt
        rw[List.drop_eq_getElem_cons hl];rw[List.getElem?_eq_getElem hl] at hat;rw[Option.some.inj hat]
      have h5:dv (k:Int) 2=some ((k:Int).tdiv 2):=four_dv k hlt;have hst:∃ b:Bool,b=pairW u y i j [(k:Int).tdiv 2,(k:Int).tmod 2]:=⟨_,rfl⟩;obtain⟨b,hb⟩:=hst
      obtain ⟨e, he⟩ := whl_all y.cons (allowB u i j ((k : Int).tdiv 2) ((k : Int).tmod 2)) (ρ := (Ctl (Int × (List (List Int))) ρ)) (b := fun (s : Bool × Int) =>
            match s with
            | (s1511,s1512)=>
            vT (σ:=Bool) (
             if (decide (s1512<(y.cons.length:Int))) then  some (.nx s1511) else  some (.nx false)) fun s1532=>
            if s1532 then
             xY (ix y.cons s1512) fun z1544=>
             xY (eA u z1544 i j ((k:Int).tdiv 2) ((k:Int).tmod 2)) fun z1548=>
             xY (ck (s1512+1)) fun z1550=>
             some (.go (z1548,z1550))
            else
             some (.brk (s1511,s1512))) (fun q c hq=>by
          have hql:=(List.getElem?_eq_some_iff.1 hq).1;simp only;rw[if_pos (by simp;omega),thn_nx,if_pos rfl,oZ hq,bnd_s,(allows_two i j _ _ hu (hC c (List.mem_of_getElem? hq))).2,bnd_s,aJ (by omega) (by omega),bnd_s]
          rfl) (fun f q hfq=>by
          by_cases hl:((q:Int)<(y.cons.length:Int))
          · have hf:f=false:=by
              rcases hfq with h | h
              · exact h
              · omega
            subst hf
            simp [hl]
          · simp [hl]) y.cons 0 N rfl (by omega)
      have hbb:y.cons.all (allowB u i j ((k:Int).tdiv 2) ((k:Int).tmod 2))=b:=by rw[hb];rfl
      rw[hbb,show(((0:Nat)):Int)=0 from rfl] at he;rw[hd,List.filter_cons,← hb]
      cases hbv:b with
      | true=>
        rw[hbv] at he
        rw[fC (s':=(((k+1:Nat):Int),s++[[(k:Int).tdiv 2,(k:Int).tmod 2]])) (by
          simp only[hsz,h4,bnd_s,h5,rm2];rw[if_pos (by simp;omega),he,thn_nx,if_pos rfl,cK (by simp only[List.length_cons,List.length_nil];omega),bnd_s,aJ (by omega) (by omega),bnd_s]
          rfl),ih (k+1) _ (by omega) (by omega) (by
            rw[List.length_append,List.length_singleton];omega),if_pos rfl,List.append_assoc]
        rfl
      | false=>
        rw[hbv] at he
        rw[fC (s':=(((k+1:Nat):Int),s)) (by
          simp only[hsz,h4,bnd_s,h5,rm2];rw[if_pos (by simp;omega),he,thn_nx,if_neg (by simp),aJ (by omega) (by omega),bnd_s]
          rfl),ih (k+1) _ (by omega) (by omega) (by omega),if_neg (by simp)]
    · obtain rfl:k=4:=by omega
      rw[bY (s':=(4,s)) (by
        simp only[hsz,h4,bnd_s]
        rfl)]
      have:(aQ 2 2).drop 4=[]:=rfl;rw[this,List.filter_nil,List.append_nil]
end Go.Proofs.YtgnfibiaaipibaaGreat
namespace Go.Proofs.YtgnfibiaaipibaaGreat
set_option linter.unusedVariables false
set_option linter.unusedSimpArgs false
theorem aB.forI {σ σ' ρ ρ':Type} {f:Nat→σ→Option (Ctl σ ρ)} {g:Nat→σ'→Option (Ctl σ' ρ')} (d:Nat) (R:Nat→σ→σ'→Prop) (Q:ρ→ρ'→Prop):∀ {m k:Nat} {s:σ} {s':σ'},R k s s' →
    (∀ j s s',k≤j→j<k+m→R j s s'→aB (f (j+d) s) (g j s') (CtlR (R (j+1)) (fun _ _=>False) Q))→aB (Go.Proofs.YtgnfibiaaipibaaGreat.zH f m (k+d) s) (Go.Proofs.YtgnfibiaaipibaaGreat.zH g m k s') (OutR (R (k+m)) Q)
  | 0,k,s,s',h,_=>aB.s h
  | m+1,k,s,s',h,hh=>by
    obtain⟨a,b,h1,h2,h3⟩:=hh k s s' (Nat.le_refl _) (by omega) h
    cases a with
    | go t=>cases b with
      | go t'=>
        rw[eG h1,eG h2];have:=aB.forI d R Q (m:=m) (k:=k+1) (s:=t) (s':=t') h3 (fun j s s' h1 h2 h3=>hh j s s' (by omega) (by omega) h3);rw[Nat.add_right_comm,show k+(m+1)=k+1+m by omega];exact this
      | brk _=>exact h3.elim
      | ret _=>exact h3.elim
    | brk _=>cases b<;>exact h3.elim
    | ret r=>cases b with
      | ret r'=>rw[forI_rt h1,forI_rt h2];exact aB.s h3
      | go _=>exact h3.elim
      | brk _=>exact h3.elim
def tri:Nat→Nat
  | 0=>0
  | n+1=>tri n+n
theorem tri_lt {i j V:Nat} (h:i<j) (hj:j<V):tri j+i<tri V:=by
  induction V with
  | zero=>omega
  | succ V ih=>
    show tri j+i<tri V+V
    rcases Nat.lt_or_ge j V with h1 | h1
    · have:=ih h1;omega
    · obtain rfl:j=V:=by omega
      omega
theorem tri_le {V:Nat} (h:V≤10):tri V≤45:=by
  have:∀ V:Nat,V<11→tri V≤45:=by decide
  exact this V (by omega)
theorem tri_dv:∀ j:Nat,j<11→ck ((j:Int) - 1)=some ((j:Int) - 1)∧ck ((j:Int)*((j:Int) - 1))=some ((j:Int)*((j:Int) - 1))∧dv ((j:Int)*((j:Int) - 1)) 2=some (tri j:Int):=by decide
structure RelOk (r:Rel):Prop where
  ar:r.arity=2
  asc:Asc r.tuples
  m:∀ t∈r.tuples,t∈aQ 2 2
structure PairsOk (V:Nat) (L:List Rel):Prop where
  len:L.length=tri V
  r:∀ r∈L,RelOk r
theorem pairR_ok (u:Template) (y:Instance) (i j:Int):RelOk (pairR u y i j):=⟨rfl,(enum_asc 2 2).filter _,fun t ht=>(List.mem_filter.1 ht).1⟩
theorem First_two {N V:Nat} {u:Template} {y:Instance} (hu:TV 2 u) (hy:y.cons.length≤24) (hC:∀ c∈y.cons,CV u y.vars c) (hV:y.vars=V) (hV1:1≤V∧V≤10) (hN:100≤N):aB (dJ N u y) (fO N u y) (fun L L'=>L=L'∧PairsOk V L∧∀ i j,i<j→j<V→L[tri j+i]?=some (pairR u y (i:Int) (j:Int))):=by
  obtain⟨m,rfl⟩:∃ m,V=m+1:=⟨V - 1,by omega⟩
  unfold dJ fO
  rw[hV,show(((m+1:Nat):Int)).toNat=m+1 by omega,show(((m+1:Nat):Int) - 1).toNat=m by omega];have hb:=tri_le (V:=m+1) (by omega);rw[eG (s':=[]) (k:=0) rfl];refine aB.thn (fun s s'=>s=s'∧s.length=tri (m+1)∧(∀ r∈s,RelOk r)∧∀ i j,i<j→j<m+1→s[tri j+i]?=some (pairR u y (i:Int) (j:Int))) (fun _ _=>False) (aB.mono (aB.forI 1 (fun k s s'=>s=s'∧s.length=tri (k+1)∧(∀ r∈s,RelOk r)∧∀ i j,i<j→j<k+1→s[tri j+i]?=some (pairR u y (i:Int) (j:Int))) (fun _ _=>False) (k:=0) ⟨rfl,rfl,(fun r hr=>nomatch hr),fun i j h1 h2=>by omega⟩ (fun j s s' hj0 hj hR=>?_)) (fun a a' h=>?_)) (fun a a' h=>aB.s ⟨h.1,⟨h.2.1,h.2.2.1⟩,h.2.2.2⟩) (fun _ _ h=>h.elim)
  · obtain⟨rfl,hl,hr,hA⟩:=hR
    have hj1:(1:Int)+(j:Int)=((j+1:Nat):Int):=by omega
    have htl:∀ i,i<j+1→tri (j+1)+i<45:=fun i hi=>by
      have:=tri_lt (i:=i) (j:=j+1) (V:=m+1) hi (by omega)
      omega
    simp only[hj1];rw[show(((j+1:Nat):Int)).toNat=j+1 by omega];refine aB.thn (fun s s'=>s=s'∧s.length=tri (j+2)∧(∀ r∈s,RelOk r)∧∀ i' j',i'<j'→j'<j+2→s[tri j'+i']?=some (pairR u y (i':Int) (j':Int))) (fun _ _=>False) (aB.mono (aB.forI 0 (fun k s s'=>s=s'∧s.length=tri (j+1)+k∧(∀ r∈s,RelOk r)∧∀ i' j',i'<j'→(j'<j+1∨(j'=j+1∧i'<k))→s[tri j'+i']?=some (pairR u y (i':Int) (j':Int))) (fun _ _=>False) (k:=0) ⟨rfl,hl,hr,fun i' j' h1 h2=>hA i' j' h1 (by omega)⟩ (fun i s s' hi0 hi hR=>?_)) (fun a a' h=>?_)) (fun a a' h=>aB.s ⟨h.1,h.2.1,h.2.2.1,fun i' j' h1 h2=>h.2.2.2 i' j' h1 (by omega)⟩) (fun _ _ h=>h.elim)
    · obtain⟨rfl,hl,hr,hA⟩:=hR
      have h9:=htl i (by omega);simp only[Nat.add_zero]
      have e1:eY N u.size 2 (fun a0=>aO a0 (Instance.mk ((m+1:Nat):Int) y.cons) (Template.mk u.size u.rels) (i:Int) ((j+1:Nat):Int))=some (pairR u y i ((j+1:Nat):Int)):=by
        have:=relPair_eq hu hC (N:=N) (by omega) (i:Int) ((j+1:Nat):Int);rw[hV] at this;exact this
      have hw:=first_whl (N:=N) (y:=y) (ρ:=(Ctl ((List Rel)) (Ctl ((List Rel)) (List Rel)))) hu hy hC hN (i:Int) ((j+1:Nat):Int) N 0 [] (by omega) (by omega) (by simp);rw[show((0:Nat):Int)=0 from rfl,List.drop_zero,List.nil_append] at hw;rw[e1,bnd_s,hw,thn_nx];simp only;have e2:(Rel.mk (pairR u y i ((j+1:Nat):Int)).arity (pairR u y i ((j+1:Nat):Int)).tuples)=pairR u y i ((j+1:Nat):Int):=rfl;have e3:(Rel.mk 2 ((aQ 2 2).filter (pairW u y i ((j+1:Nat):Int))))=pairR u y i ((j+1:Nat):Int):=rfl;rw[e2,e3,cK (by simp only[List.length_cons,List.length_nil];omega),bnd_s];refine aB.s ⟨rfl,by rw[List.length_append,List.length_singleton];omega,fun r h=>?_,fun i' j' h1 h2=>?_⟩
      · rcases List.mem_append.1 h with h | h
        · exact hr r h
        · rw[List.mem_singleton] at h;subst h;exact pairR_ok _ _ _ _
      · by_cases he:j'=j+1∧i'=i
        · obtain⟨rfl,rfl⟩:=he
          rw[← hl,List.getElem?_concat_length]
        · have:=hA i' j' h1 (by omega)
          rw[List.getElem?_append_left (List.getElem?_eq_some_iff.1 this).1,this]
    · rw[Nat.zero_add] at h
      cases a<;>cases a'<;>first | exact⟨h.1,h.2.1,h.2.2.1,fun i' j' h1 h2=>h.2.2.2 i' j' h1 (by omega)⟩ | exact h
  · rw[Nat.zero_add] at h
    exact h
def prel (L:List Rel) (i j:Nat):List (List Int):=(L.getD (tri j+i) default).tuples
def lfB (L:List Rel) (p q:Nat) (a b:Int):Bool:=if q<p then decide ([b,a]∈prel L q p) else decide ([a,b]∈prel L p q)
theorem PairsOk.at {V:Nat} {L:List Rel} (h:PairsOk V L) {i j:Nat} (hi:i<j) (hj:j<V):L[tri j+i]?=some (L.getD (tri j+i) default)∧RelOk (L.getD (tri j+i) default):=by
  have h1:=tri_lt hi hj
  have h2:L[tri j+i]?=some (L.getD (tri j+i) default):=by rw[List.getD_eq_getElem?_getD,List.getElem?_eq_getElem (by rw[h.len];exact h1)];rfl
  exact⟨h2,h.r _ (List.mem_of_getElem? h2)⟩
theorem RelOk.four {r:Rel} (h:RelOk r):r.tuples.length≤4:=by
  rw[rel_enum h.asc h.m];exact Nat.le_trans (List.length_filter_le _ _) (by decide)
theorem pairIndex_eq {i j:Nat} (hi:i<j) (hj:j<10):eP (i:Int) (j:Int)=some ((tri j+i:Nat):Int)∧eB (i:Int) (j:Int)=some ((tri j+i:Nat):Int):=by
  obtain⟨h1,h2,h3⟩:=tri_dv j (by omega);have h4:=tri_lt hi hj;have h5:=tri_le (V:=10) (by omega)
  have h6:ck ((tri j:Int)+(i:Int))=some ((tri j+i:Nat):Int):=by rw[aJ (by omega) (by omega)];push_cast;rfl
  unfold eP eB
  simp only[if_pos (show(i:Int)<(j:Int) by omega),if_neg (show ¬ (j:Int)<(i:Int) by omega),h1,h2,h3,h6,bnd_s];exact⟨trivial,trivial⟩
theorem isLeft_two {N V:Nat} {L:List Rel} (h:PairsOk V L) (hV:V≤10) {p q:Nat} (hp:p<V) (hq:q<V) (hne:p≠q) (a b:Int) (hN:1100≤N):gJ N L (p:Int) (q:Int) a b=some (lfB L p q a b)∧kM L (p:Int) (q:Int) a b=some (lfB L p q a b):=by
  unfold gJ kM lfB
  rcases Nat.lt_or_ge q p with hlt | hge
  · obtain⟨h1,h2⟩:=h.at hlt hp
    obtain⟨e1,e2⟩:=pairIndex_eq hlt (by omega)
    have hd:decide ((q:Int)<(p:Int))=true:=by simp;omega
    rw[if_pos hlt,hd];simp only[if_true,thn_nx,e1,e2,bnd_s,oZ h1,l01Has_eq,has_eq (t:=[b,a]) h2.asc (by have:=h2.four;omega) (by omega:1002≤N)];exact⟨rfl,rfl⟩
  · obtain⟨h1,h2⟩:=h.at (show p<q by omega) hq
    obtain⟨e1,e2⟩:=pairIndex_eq (show p<q by omega) (by omega)
    have hd:decide ((q:Int)<(p:Int))=false:=by simp;omega
    rw[if_neg (show ¬ q<p by omega),hd];simp only[Bool.false_eq_true,if_false,thn_nx,e1,e2,bnd_s,oZ h1,l01Has_eq,has_eq (t:=[a,b]) h2.asc (by have:=h2.four;omega) (by omega:1002≤N)];exact⟨rfl,rfl⟩
def totR (L:List Rel):Nat:=(L.map fun r=>r.tuples.length).sum
theorem totR_set:∀ (L:List Rel) (i:Nat) (d w:Rel),L[i]?=some d→totR (L.set i w)+d.tuples.length=totR L+w.tuples.length
  | [],i,d,w,h=>by simp at h
  | x::r,0,d,w,h=>by
    simp at h;subst h
    simp [totR];omega
  | x::r,i+1,d,w,h=>by
    have:=totR_set r i d w (by simpa using h)
    simp [totR] at this ⊢
    omega
theorem totR_le:∀ (L:List Rel),(∀ r∈L,RelOk r)→totR L≤4*L.length
  | [],_=>by simp [totR]
  | x::r,h=>by
    have h1:=totR_le r (fun y hy=>h y (by simp [hy]));have h2:=(h x (by simp)).four
    simp [totR] at h1 ⊢
    omega
theorem whl_any {α ρ:Type} (L:List α) (p:α→Bool) {b:Bool×Int→Option (Ctl (Bool×Int) ρ)}
    (h1:∀ (i:Nat) t,L[i]?=some t→b (false,(i:Int))=some (.go (p t,((i+1:Nat):Int))))
    (h2:∀ (f:Bool) (i:Nat),(f=true∨L.length≤i)→b (f,(i:Int))=some (.brk (f,(i:Int)))) :
    ∀ (r:List α) (i N:Nat),L.drop i=r→r.length+2≤N→∃ j:Nat,cF b N (false,(i:Int))=some (.nx (r.any p,(j:Int)))
  | [],i,N,hr,hN=>by
    obtain⟨M,rfl⟩:∃ M,N=M+1:=⟨N - 1,by omega⟩;have hl:=congrArg List.length hr;rw[List.length_drop] at hl;exact⟨i,bY (h2 false i (.inr (by simp at hl;omega)))⟩
  | t::r,i,N,hr,hN=>by
    obtain⟨M,rfl⟩:∃ M,N=M+2:=⟨N - 2,by simp at hN;omega⟩
    have hi:i<L.length:=by
      rcases Nat.lt_or_ge i L.length with h | h
      · exact h
      · rw[List.drop_eq_nil_of_le h] at hr;cases hr
    rw[List.drop_eq_getElem_cons hi] at hr
    injection hr with e1 e2
    have ht:L[i]?=some t:=by rw[List.getElem?_eq_getElem hi,e1]
    rw[show M+2=(M+1)+1 from rfl,fC (h1 i t ht),List.any_cons]
    cases hp:p t with
    | true=>exact⟨i+1,bY (h2 true (i+1) (.inl rfl))⟩
    | false=>rw[Bool.false_or];exact whl_any L p h1 h2 r (i+1) (M+1) e2 (by simp at hN;omega)
def supB (L:List Rel) (i j k:Nat) (d:List Int):Bool:=(List.range' 0 2).any fun v=>lfB L i k (d.getD 0 0) (v:Int) && lfB L k j (v:Int) (d.getD 1 0)
def Cons3 (L:List Rel) (i j k:Nat):Prop:=∀ d∈prel L i j,supB L i j k d=true
theorem through_loop {N V:Nat} {L:List Rel} {i j k:Nat} {ρ:Type} (h:PairsOk V L) (hV:V≤10) (hi:i<j) (hj:j<V) (hk:k<V) (hki:k≠i) (hkj:k≠j) (hN:1100≤N):∀ (l:List (List Int)) (p:Nat) (s:List (List Int)),(∀ d∈l,d.length=2)→s.length+l.length≤1000 →
    qJ (σ:=(List (List Int))) (ρ:=ρ) (fun(k490:Nat) (x492:(List Int)) (s484:(List (List Int)))=>
   vT (σ:=Bool×Int) (
    cF (σ:=Bool×Int) (ρ:=(Ctl ((List (List Int))) ρ)) (fun(s:Bool×Int)=>
      match s with
      | (s585,s586)=>
      vT (σ:=Bool) (
       if (decide (s586<2)) then  some (.nx (!s585)) else  some (.nx false)) fun s601=>
      if s601 then
       vT (σ:=Bool) (
        xY (ix x492 0) fun z647=>
        xY (kM L (i:Int) (k:Int) z647 s586) fun z652=>
        if z652 then  xY (ix x492 1) fun z663=>
         xY (kM L (k:Int) (j:Int) s586 z663) fun z668=>
         some (.nx z668) else  some (.nx false)) fun s638=>
       xY (ck (s586+1)) fun z670=>
       some (.go (s638,z670))
      else
       some (.brk (s585,s586))) N (false,0)) fun(s588,s589)=>
   if s588 then
    xY (ap s484 ([x492])) fun z683=>
    some (.go z683)
   else
    some (.go s484)) l p s=some (.nx (s++l.filter (supB L i j k)))
  | [],p,s,_,_=>by simp [qJ]
  | d::l,p,s,hd,hs=>by
    rw[List.length_cons] at hs;have hd2:=hd d (by simp);have h0:ix d 0=some (d.getD 0 0):=eF (k:=0) (by omega);have h1:ix d 1=some (d.getD 1 0):=eF (k:=1) (by omega)
    obtain⟨e,he⟩:=whl_any (List.range' 0 2) (fun v=>lfB L i k (d.getD 0 0) (v:Int) && lfB L k j (v:Int) (d.getD 1 0)) (ρ:=(Ctl ((List (List Int))) ρ)) (b:=fun(s:Bool×Int)=>
      match s with
      | (s585,s586)=>
      vT (σ:=Bool) (
       if (decide (s586<2)) then  some (.nx (!s585)) else  some (.nx false)) fun s601=>
      if s601 then
       vT (σ:=Bool) (
        xY (ix d 0) fun z647=>
        xY (kM L (i:Int) (k:Int) z647 s586) fun z652=>
        if z652 then  xY (ix d 1) fun z663=>
         xY (kM L (k:Int) (j:Int) s586 z663) fun z668=>
         some (.nx z668) else  some (.nx false)) fun s638=>
       xY (ck (s586+1)) fun z670=>
       some (.go (s638,z670))
      else
       some (.brk (s585,s586))) (fun q t hq=>by
        have hql:=(List.getElem?_eq_some_iff.1 hq).1;rw[List.length_range'] at hql
        have ht:t=q:=by
          rw[List.getElem?_range' (by omega)] at hq;have:=Option.some.inj hq
          omega
        subst ht;have l1:=(isLeft_two h hV (show i<V by omega) hk (fun h=>hki h.symm) (d.getD 0 0) (t:Int) hN).2;have l2:=(isLeft_two h hV hk hj hkj (t:Int) (d.getD 1 0) hN).2;simp only;rw[if_pos (by simp;omega),thn_nx];simp only[Bool.not_false,if_true,h0,h1,bnd_s,l1,l2,aJ (x:=(t:Int)+1) (by omega) (by omega)]
        cases lfB L i k (d.getD 0 0) (t:Int)<;>rfl) (fun f q hfq=>by
        rw[List.length_range'] at hfq
        by_cases hl:((q:Int)<2)
        · have hf:f=true:=by
            rcases hfq with h | h
            · exact h
            · omega
          subst hf
          simp [hl]
        · simp [hl]) (List.range' 0 2) 0 N rfl (by rw[List.length_range'];omega)
    rw[show(((0:Nat)):Int)=0 from rfl] at he;have ih:=fun s' hs'=>through_loop (ρ:=ρ) h hV hi hj hk hki hkj hN l (p+1) s' (fun d hd'=>hd d (by simp [hd'])) hs';rw[List.filter_cons];have hsb:(List.range' 0 2).any (fun v=>lfB L i k (d.getD 0 0) (v:Int) && lfB L k j (v:Int) (d.getD 1 0))=supB L i j k d:=rfl;rw[hsb] at he
    cases hb:supB L i j k d with
    | true=>
      rw[hb] at he;rw[dC (s':=s++[d]) (by rw[he,thn_nx];simp only[if_true];rw[cK (by simp only[List.length_cons,List.length_nil];omega),bnd_s]),ih _ (by rw[List.length_append,List.length_singleton];omega),if_pos rfl,List.append_assoc]
      rfl
    | false=>
      rw[hb] at he;rw[dC (s':=s) (by rw[he,thn_nx];rfl),ih _ (by omega),if_neg (by simp)]
theorem narrow_two {N V:Nat} {L:List Rel} {i j k:Nat} (h:PairsOk V L) (hV:V≤10) (hi:i<j) (hj:j<V) (hk:k<V) (hki:k≠i) (hkj:k≠j) (hN:1100≤N) :
    ∃ ch L',gB N 2 L (PairStep.mk (i:Int) (j:Int) (k:Int))=some (ch,L')∧cA N 2 L (i:Int) (j:Int) (k:Int)=some (ch,L')∧PairsOk V L'∧(ch=false→L'=L∧Cons3 L i j k)∧(ch=true→totR L'<totR L∧L'=L.set (tri j+i) ⟨2,(prel L i j).filter (supB L i j k)⟩):=by
  obtain⟨h1,h2⟩:=h.at hi hj;obtain⟨e1,e2⟩:=pairIndex_eq hi (show j<10 by omega);have h4:=h2.four;obtain⟨r,hr⟩:∃ r,r=L.getD (tri j+i) default:=⟨_,rfl⟩
  have hp:prel L i j=r.tuples:=by rw[hr];rfl
  rw[← hr] at h1 h2 h4;obtain⟨F,hF⟩:∃ F,F=r.tuples.filter (supB L i j k):=⟨_,rfl⟩
  have hW:(aQ 2 2).filter (fun d=>supB L i j k d && decide (d∈r.tuples))=F:=by
    rw[← List.filter_filter,← rel_enum h2.asc h2.m,hF]
  have hFl:F.length≤r.tuples.length:=by rw[hF];exact List.length_filter_le _ _
  have eI:eY N 2 2 (fun a0=>fK N a0 L ((tri j+i:Nat):Int) 2 (PairStep.mk (i:Int) (j:Int) (k:Int)))=some ⟨2,F⟩:=by
    have:=relOf_eq (N:=N) (T:=2) (n:=2) (by omega) (by omega) (by omega) (is:=fun a0=>fK N a0 L ((tri j+i:Nat):Int) 2 (PairStep.mk (i:Int) (j:Int) (k:Int))) (fun d=>supB L i j k d && decide (d∈r.tuples)) (fun d hd=>by
      have hl:=(dN.1 hd).1
      unfold fK
      rw[oZ h1,bnd_s,has_eq h2.asc (by omega) (by omega),bnd_s]
      cases hm:decide (d∈r.tuples) with
      | false=>simp
      | true=>
        rw[if_neg (by simp)];have h0:ix d 0=some (d.getD 0 0):=eF (k:=0) (by omega);have h9:ix d 1=some (d.getD 1 0):=eF (k:=1) (by omega);rw[show((2:Int)).toNat=2 from rfl]
        rw[forI_any (fun v=>lfB L i k (d.getD 0 0) (v:Int) && lfB L k j (v:Int) (d.getD 1 0)) true 2 0 (fun v hv0 hv=>by
          have l1:=(isLeft_two h hV (show i<V by omega) hk (fun h=>hki h.symm) (d.getD 0 0) (v:Int) hN).1;have l2:=(isLeft_two h hV hk hj hkj (v:Int) (d.getD 1 0) hN).1;simp only[h0,h9,bnd_s,l1,l2]
          cases lfB L i k (d.getD 0 0) (v:Int)<;>cases lfB L k j (v:Int) (d.getD 1 0)<;>rfl)]
        show vT (some (if supB L i j k d then _ else _)) _=_
        cases supB L i j k d<;>rfl)
    rw[hW] at this;exact this
  have hps:PairsOk V (L.set (tri j+i) ⟨2,F⟩):=⟨by rw[List.length_set];exact h.len,fun q hq=>by
    rcases List.mem_or_eq_of_mem_set hq with hq | rfl
    · exact h.r q hq
    · exact⟨rfl,by rw[hF];exact h2.asc.filter _,fun t ht=>by rw[hF] at ht;exact h2.m t (List.mem_filter.1 ht).1⟩⟩
  have hset:=totR_set L (tri j+i) r ⟨2,F⟩ h1
  have eS:cA N 2 L (i:Int) (j:Int) (k:Int)=some (decide ((F.length:Int)<(r.tuples.length:Int)),L.set (tri j+i) ⟨2,F⟩):=by
    unfold cA
    rw[e2,bnd_s,oZ h1,bnd_s,through_loop h hV hi hj hk hki hkj hN r.tuples 0 [] (fun d hd=>(dN.1 (h2.m d hd)).1) (by simp only[List.length_nil];omega),thn_nx,List.nil_append,← hF,Int.toNat_natCast]
  have eI2:gB N 2 L (PairStep.mk (i:Int) (j:Int) (k:Int))=if ((F.length:Int)==(r.tuples.length:Int)) then some (false,L) else some (true,L.set (tri j+i) ⟨2,F⟩):=by
    unfold gB
    simp only[e1,bnd_s];rw[eI,bnd_s,oZ h1,bnd_s,Int.toNat_natCast]
  by_cases hl:F.length=r.tuples.length
  · have hFr:F=r.tuples:=by
      rw[hF];exact List.Sublist.eq_of_length List.filter_sublist (by rw[← hF];exact hl)
    have hself:L.set (tri j+i) ⟨2,F⟩=L:=by
      refine set_same ?_;rw[h1,hFr,← h2.ar]
    refine⟨false,L,?_,?_,h,fun _=>⟨rfl,fun d hd=>?_⟩,fun h=>nomatch h⟩
    · rw[eI2,if_pos (by simp;omega)]
    · rw[eS,hself,decide_eq_false (by omega)]
    · rw[hp,← hFr,hF] at hd
      exact(List.mem_filter.1 hd).2
  · refine⟨true,_,?_,?_,hps,fun h=>(nomatch h),fun _=>?_⟩
    · rw[eI2,if_neg (by simp;omega)]
    · rw[eS,decide_eq_true (by omega)]
    · simp only at hset
      exact⟨by omega,by rw[hp,hF]⟩
end Go.Proofs.YtgnfibiaaipibaaGreat
namespace Go.Proofs.YtgnfibiaaipibaaGreat
set_option linter.unusedVariables false
set_option linter.unusedSimpArgs false
def Narr (K:List Rel→Prop) (V:Nat):Prop:=∀ L i j k,PairsOk V L→K L→i<j→j<V→k<V→k≠i→k≠j→K (L.set (tri j+i) ⟨2,(prel L i j).filter (supB L i j k)⟩)
structure QInv (K:List Rel→Prop) (V B T:Nat) (D:Nat→Nat→Nat→Prop) (s:List PairStep×Bool×List Rel):Prop where
  ok:PairsOk V s.2.2
  sum:s.1.length+totR s.2.2≤T
  ge:B≤s.1.length
  yes:s.2.1=true→B<s.1.length
  no:s.2.1=false→s.1.length=B
  k:K s.2.2
  con:s.2.1=false→∀ i j k,i<j→j<V→k<V→k≠i→k≠j→D i j k→Cons3 s.2.2 i j k
theorem QInv.mono {K:List Rel→Prop} {V B T:Nat} {D D':Nat→Nat→Nat→Prop} {s:List PairStep×Bool×List Rel} (h:QInv K V B T D s) (hd:∀ i j k,i<j→j<V→k<V→k≠i→k≠j→D' i j k→D i j k):QInv K V B T D' s:=
  ⟨h.ok,h.sum,h.ge,h.yes,h.no,h.k,fun hf i j k h1 h2 h3 h4 h5 h6=>h.con hf i j k h1 h2 h3 h4 h5 (hd i j k h1 h2 h3 h4 h5 h6)⟩
theorem pass_two {N V B T:Nat} {K:List Rel→Prop} {u:Template} {ρ ρ':Type} (hK:Narr K V) (hu:u.size=2) (hV:1≤V∧V≤10) (hT:T≤1000) (hN:1100≤N) {s:List PairStep×Bool×List Rel} (I:QInv K V B T (fun _ _ _=>False) s) :
    aB (zH (σ:=(List PairStep)×Bool×(List Rel)) (ρ:=ρ) (fun(k6907:Nat) (s:(List PairStep)×Bool×(List Rel))=>
        match s with
      | (s6893,s6896,s6897)=>
        vT (σ:=(List PairStep)×Bool×(List Rel)) (
         zH (σ:=(List PairStep)×Bool×(List Rel)) (ρ:=(Ctl ((List PairStep)×Bool×(List Rel)) ρ)) (fun(k7216:Nat) (s:(List PairStep)×Bool×(List Rel))=>
           match s with
           | (s7202,s7205,s7206)=>
           vT (σ:=(List PairStep)×Bool×(List Rel)) (
            zH (σ:=(List PairStep)×Bool×(List Rel)) (ρ:=(Ctl ((List PairStep)×Bool×(List Rel)) (Ctl ((List PairStep)×Bool×(List Rel)) ρ))) (fun(k7319:Nat) (s:(List PairStep)×Bool×(List Rel))=>
              match s with
              | (s7305,s7308,s7309)=>
              vT (σ:=(List Rel)×Bool) (
               if ((k7319:Int) != (k7216:Int)) then  if ((k7319:Int) != (k6907:Int)) then  xY (gB N u.size s7309 (PairStep.mk (k7216:Int) (k6907:Int) (k7319:Int))) fun z7344=>
                 some (.nx (z7344.2,z7344.1)) else  some (.nx (s7309,false)) else  some (.nx (s7309,false))) fun(s7338,s7341)=>
              if s7341 then
               xY (ap s7305 ([(PairStep.mk (k7216:Int) (k6907:Int) (k7319:Int))])) fun z7354=>
               some (.go (z7354,true,s7338))
              else
               some (.go (s7305,s7308,s7338))) ((V:Nat):Int).toNat 0 (s7202,s7205,s7206)) fun(s7312,s7315,s7316)=>
           some (.go (s7312,s7315,s7316))) (k6907:Int).toNat 0 (s6893,s6896,s6897)) fun(s7209,s7212,s7213)=>
        some (.go (s7209,s7212,s7213))) ((V:Nat):Int).toNat 0 s)
      (zH (σ:=(List PairStep)×(List Rel)) (ρ:=ρ') (fun(k4167:Nat) (s:(List PairStep)×(List Rel))=>
        match s with
        | (s4157,s4160)=>
        vT (σ:=(List PairStep)×(List Rel)) (
         zH (σ:=(List PairStep)×(List Rel)) (ρ:=(Ctl ((List PairStep)×(List Rel)) ρ')) (fun(k4512:Nat) (s:(List PairStep)×(List Rel))=>
           match s with
           | (s4502,s4505)=>
           vT (σ:=(List PairStep)×(List Rel)) (
            zH (σ:=(List PairStep)×(List Rel)) (ρ:=(Ctl ((List PairStep)×(List Rel)) (Ctl ((List PairStep)×(List Rel)) ρ'))) (fun(k4625:Nat) (s:(List PairStep)×(List Rel))=>
              match s with
              | (s4615,s4618)=>
              vT (σ:=(List Rel)×Bool) (
               if ((k4625:Int) != (k4512:Int)) then  if ((k4625:Int) != (1+(k4167:Int))) then  xY (cA N u.size s4618 (k4512:Int) (1+(k4167:Int)) (k4625:Int)) fun z4657=>
                 some (.nx (z4657.2,z4657.1)) else  some (.nx (s4618,false)) else  some (.nx (s4618,false))) fun(s4649,s4651)=>
              if s4651 then
               xY (ap s4615 ([(PairStep.mk (k4512:Int) (1+(k4167:Int)) (k4625:Int))])) fun z4667=>
               some (.go (z4667,s4649))
              else
               some (.go (s4615,s4649))) ((V:Nat):Int).toNat 0 (s4502,s4505)) fun(s4620,s4623)=>
           some (.go (s4620,s4623))) (1+(k4167:Int)).toNat 0 (s4157,s4160)) fun(s4507,s4510)=>
        some (.go (s4507,s4510))) (((V:Nat):Int) - 1).toNat 0 (s.1,s.2.2))
      (OutR (fun s s'=>s'=(s.1,s.2.2)∧QInv K V B T (fun _ _ _=>True) s) (fun _ _=>False)):=by
  obtain⟨m,rfl⟩:∃ m,V=m+1:=⟨V - 1,by omega⟩;rw[show(((m+1:Nat):Int)).toNat=m+1 by omega,show(((m+1:Nat):Int) - 1).toNat=m by omega];obtain⟨o,c,L⟩:=s;rw[eG (s':=(o,c,L)) (k:=0) rfl];refine aB.mono (aB.forI 1 (fun n s s'=>s'=(s.1,s.2.2)∧QInv K (m+1) B T (fun i j k=>j<n+1) s) (fun _ _=>False) (k:=0) ⟨rfl,I.mono (fun i j k h1 _ _ _ _ h=>by omega)⟩ (fun j s s' hj0 hj hR=>?_)) (fun a a' h=>?_)
  · obtain⟨o1,c1,L1⟩:=s
    obtain⟨rfl,I1⟩:=hR
    have hj1:(1:Int)+(j:Int)=((j+1:Nat):Int):=by omega
    simp only[hj1];rw[show(((j+1:Nat):Int)).toNat=j+1 by omega];refine aB.thn (fun s s'=>s'=(s.1,s.2.2)∧QInv K (m+1) B T (fun i' j' k=>j'<j+2) s) (fun _ _=>False) (aB.mono (aB.forI 0 (fun n s s'=>s'=(s.1,s.2.2)∧QInv K (m+1) B T (fun i' j' k=>j'<j+1∨(j'=j+1∧i'<n)) s) (fun _ _=>False) (k:=0) ⟨rfl,I1.mono (fun i' j' k h1 _ _ _ _ h=>by omega)⟩ (fun i s s' hi0 hi hR=>?_)) (fun a a' h=>?_)) (fun a a' h=>?_) (fun _ _ h=>h.elim)
    · obtain⟨o2,c2,L2⟩:=s
      obtain⟨rfl,I2⟩:=hR;simp only[Nat.add_zero];refine aB.thn (fun s s'=>s'=(s.1,s.2.2)∧QInv K (m+1) B T (fun i' j' k=>j'<j+1∨(j'=j+1∧i'<i+1)) s) (fun _ _=>False) (aB.mono (aB.forI 0 (fun n s s'=>s'=(s.1,s.2.2)∧QInv K (m+1) B T (fun i' j' k=>j'<j+1∨(j'=j+1∧(i'<i∨i'=i∧k<n))) s) (fun _ _=>False) (k:=0) ⟨rfl,I2.mono (fun i' j' k h1 _ _ _ _ h=>by omega)⟩ (fun k s s' hk0 hk hR=>?_)) (fun a a' h=>?_)) (fun a a' h=>?_) (fun _ _ h=>h.elim)
      · obtain⟨o3,c3,L3⟩:=s
        obtain⟨rfl,I3⟩:=hR;simp only[Nat.add_zero,hu]
        by_cases hki:k=i
        · have h1:((k:Int) != (i:Int))=false:=by simp [hki]
          simp only[h1,Bool.false_eq_true,if_false,thn_nx];refine aB.s ⟨rfl,I3.mono (fun i' j' k' h1 h2 h3 h4 h5 h=>by omega)⟩
        · have h1:((k:Int) != (i:Int))=true:=by simp;omega
          by_cases hkj:k=j+1
          · have h2:((k:Int) != ((j+1:Nat):Int))=false:=by simp [hkj]
            simp only[h1,h2,Bool.false_eq_true,if_false,if_true,thn_nx];refine aB.s ⟨rfl,I3.mono (fun i' j' k' h1 h2 h3 h4 h5 h=>by omega)⟩
          · have h2:((k:Int) != ((j+1:Nat):Int))=true:=by rw[bne_iff_ne];omega
            obtain⟨ch,L',n1,n2,n3,n4,n5⟩:=narrow_two (N:=N) I3.ok hV.2 (show i<j+1 by omega) (by omega) (show k<m+1 by omega) hki hkj hN;have hs:=I3.sum;have hg:=I3.ge;simp only at hs hg n4 n5;simp only[h1,h2,if_true,n1,n2,bnd_s,thn_nx]
            cases ch with
            | false=>
              obtain⟨rfl,hc⟩:=n4 rfl;simp only[Bool.false_eq_true,if_false];refine aB.s ⟨rfl,I3.ok,I3.sum,I3.ge,I3.yes,I3.no,I3.k,fun hf i' j' k' h1 h2 h3 h4 h5 h=>?_⟩
              by_cases he:i'=i∧j'=j+1∧k'=k
              · obtain⟨rfl,rfl,rfl⟩:=he
                exact hc
              · exact I3.con hf i' j' k' h1 h2 h3 h4 h5 (by omega)
            | true=>
              obtain⟨ht,hL'⟩:=n5 rfl;simp only[if_true];rw[cK (by simp only[List.length_cons,List.length_nil];omega),bnd_s,bnd_s];refine aB.s ⟨rfl,n3,?_,?_,fun _=>?_,fun h=>(nomatch h),(by rw[hL'];exact hK _ _ _ _ I3.ok I3.k (by omega) (by omega) (by omega) hki hkj),fun h=>(nomatch h)⟩
              · show(o3++[_]).length+totR L'≤T
                rw[List.length_append,List.length_singleton];omega
              · show B≤(o3++[_]).length
                rw[List.length_append,List.length_singleton];omega
              · show B<(o3++[_]).length
                rw[List.length_append,List.length_singleton];omega
      · cases a<;>cases a'<;>first | exact⟨h.1,h.2.mono (fun i' j' k' h1 h2 h3 h4 h5 h=>by omega)⟩ | exact h
      · obtain⟨o3,c3,L3⟩:=a
        obtain⟨rfl,h⟩:=h;exact aB.s ⟨rfl,h⟩
    · cases a<;>cases a'<;>first | exact⟨h.1,h.2.mono (fun i' j' k' h1 h2 h3 h4 h5 h=>by omega)⟩ | exact h
    · obtain⟨o3,c3,L3⟩:=a
      obtain⟨rfl,h⟩:=h;exact aB.s ⟨rfl,h⟩
  · cases a<;>cases a'<;>first | exact⟨h.1,h.2.mono (fun i' j' k' h1 h2 h3 h4 h5 h=>by omega)⟩ | exact h
def PathOk (V:Nat) (L:List Rel):Prop:=∀ i j k,i<j→j<V→k<V→k≠i→k≠j→Cons3 L i j k
theorem makePairs_two {N V:Nat} {u:Template} {y:Instance} (hu:TV 2 u) (hy:y.cons.length≤24) (hC:∀ c∈y.cons,CV u y.vars c) (hV:y.vars=V) (hV1:1≤V∧V≤10) (hN:1100≤N) {K:List Rel→Prop} (hK:Narr K V) (hK0:∀ L,PairsOk V L→(∀ i j,i<j→j<V→L[tri j+i]?=some (pairR u y (i:Int) (j:Int)))→K L) :
    ∃ L0 L out,fO N u y=some L0∧cY N u y=some (L,out)∧fN N u y L0=some (out,L)∧PairsOk V L∧PathOk V L∧K L:=by
  obtain⟨L0,L0',f1,f2,rfl,hok,hat⟩:=First_two (N:=N) hu hy hC hV hV1 (by omega);have hk0:=hK0 _ hok hat;have hT0:=totR_le L0 hok.r;have htr:=tri_le hV1.2;have hlen:=hok.len;obtain⟨T,hTd⟩:∃ T,T=totR L0:=⟨_,rfl⟩
  have key:aB (cY N u y) (fN N u y L0) (fun r r'=>r'=(r.2,r.1)∧PairsOk V r.1∧PathOk V r.1∧K r.1):=by
    unfold cY fN
    have f1':dJ N (Template.mk u.size u.rels) (Instance.mk y.vars y.cons)=some L0:=f1;rw[f1',bnd_s,hV];refine aB.thn (fun t t'=>t'.1=t.1∧t'.2.2=t.2.2∧PairsOk V t.2.2∧PathOk V t.2.2∧K t.2.2) (fun r r'=>False) (aB.whl (fun s s'=>∃ bf:Int,s'=(s.1,bf,s.2.2)∧(s.2.1=true↔bf≠(s.1.length:Int))∧PairsOk V s.2.2∧s.1.length+totR s.2.2≤T∧(s.2.1=false→PathOk V s.2.2)∧K s.2.2) _ _ (fun s=>totR s.2.2+(if s.2.1 then 1 else 0)) ?_ ⟨-1,rfl,⟨fun _=>by simp,fun _=>rfl⟩,hok,by simp [hTd],(fun h=>nomatch h),hk0⟩ (fun s s' hR=>?_)) (fun t t' h=>?_) (fun r r' h=>h.elim)
    · simp only[if_true];omega
    · obtain⟨out,ch,L⟩:=s
      obtain⟨bf,rfl,hb,ok,hs,hp,hk⟩:=hR;simp only at hb ok hs hp hk ⊢
      cases ch with
      | false=>
        have hbf:bf=(out.length:Int):=by
          by_cases h:bf=(out.length:Int)
          · exact h
          · exact absurd (hb.2 h) (by simp)
        rw[if_neg (by simp),if_neg (by simp [hbf])];exact aB.s ⟨rfl,rfl,ok,hp rfl,hk⟩
      | true=>
        rw[if_pos rfl,if_pos (by simpa using hb.1 rfl)];have hp2:=pass_two (N:=N) (V:=V) (B:=out.length) (T:=out.length+totR L) (u:=u) (ρ:=(Ctl ((List PairStep)×Bool×(List Rel)) ((List Rel)×(List PairStep)))) (ρ':=(Ctl ((List PairStep)×Int×(List Rel)) ((List PairStep)×(List Rel)))) hK hu.s hV1 (by omega) hN (s:=(out,false,L)) ⟨ok,Nat.le_refl _,Nat.le_refl _,(fun h=>nomatch h),(fun _=>rfl),hk,fun _ _ _ _ _ _ _ _ _ h=>h.elim⟩;refine aB.thn (fun s s'=>s'=(s.1,s.2.2)∧QInv K V out.length (out.length+totR L) (fun _ _ _=>True) s) (fun r r'=>False) hp2 (fun a b h=>?_) (fun r r' h=>h.elim);obtain⟨o3,c3,L3⟩:=a;obtain⟨rfl,h⟩:=h;have h6:=h.sum;have h7:=h.ge;simp only at h h6 h7 ⊢;refine aB.s ⟨⟨(out.length:Int),rfl,?_,h.ok,(show o3.length+totR L3≤T by omega),(fun hc=>fun i j k h1 h2 h3 h4 h5=>h.con hc i j k h1 h2 h3 h4 h5 trivial),h.k⟩,?_⟩
        · constructor
          · intro hc;have:=h.yes hc;show(out.length:Int)≠(o3.length:Int);simp only at this;omega
          · intro hc
            change (out.length:Int)≠(o3.length:Int) at hc
            cases hc3:c3 with
            | true=>rfl
            | false=>have:=h.no hc3;simp only at this;exact absurd (by omega) hc
        · cases hc3:c3 with
          | true=>have:=h.yes hc3;simp only at this;simp only[if_true];omega
          | false=>have:=h.no hc3;simp only at this;simp only[Bool.false_eq_true,if_false,if_true];omega
    · obtain⟨h1,h2,h3,h4⟩:=h
      obtain⟨o,c,d⟩:=t;obtain⟨o',c',d'⟩:=t';simp only at h1 h2 h3 h4 ⊢;subst h1 h2;exact aB.s ⟨rfl,h3,h4⟩
  obtain⟨r,r',k1,k2,rfl,k3,k4,k5⟩:=key;exact⟨L0,r.1,r.2,f2,k1,k2,k3,k4,k5⟩
end Go.Proofs.YtgnfibiaaipibaaGreat
namespace Go.Proofs.YtgnfibiaaipibaaGreat
set_option linter.unusedVariables false
set_option linter.unusedSimpArgs false
theorem from_eq {T:Nat} {u:Template} {y:Instance} (hu:TV T u) (h:∀ c∈y.cons,CW u y.vars c) (hv:0≤y.vars∧y.vars≤10) (K':Int):∀ (d N:Nat) (vs:List Int) (cnt:Int),(vs.length:Int)+d=y.vars→d+1≤N→0≤cnt∧cnt≤1000→kO N u y 1 [] cnt vs=some (match dP u (fY K' y) d vs with | some o=>([o],cnt+1) | none=>([],cnt))
  | 0,N,vs,cnt,hd,hN,hc=>by
    obtain⟨M,rfl⟩:∃ M,N=M+1:=⟨N - 1,by omega⟩;rw[kO,if_pos (by simp;omega),aJ (by omega) (by omega),bnd_s,if_pos (by rfl),own_eq _ (by omega),bnd_s,cK (by simp only[List.length_cons,List.length_nil];omega),bnd_s,thn_nx]
    rfl
  | d+1,N,vs,cnt,hd,hN,hc=>by
    obtain⟨M,rfl⟩:∃ M,N=M+1:=⟨N - 1,by omega⟩;have ih:=from_eq hu h hv K' d M;rw[kO,if_neg (by simp;omega)]
    have hl:∀ a:Nat,(vs++[(a:Int)]).length=vs.length+1:=fun a=>by simp
    have key:∀ (m k:Nat) (b:Nat→(List (List Int))×Int→Option (Ctl ((List (List Int))×Int) ((List (List Int))×Int))),
        (∀ (a:Nat) o c,b a ([o],c)=some (.ret ([o],c)))→(∀ a:Nat,b a ([],cnt)=some (.go (match (if gG u (fY K' y) (vs++[(a:Int)]) then dP u (fY K' y) d (vs++[(a:Int)]) else none) with | some o=>([o],cnt+1) | none=>([],cnt)))) →
        vT (zH b m k ([],cnt)) (fun s=>some s)=some (match (List.range' k m).findSome? fun(a:Nat)=>if gG u (fY K' y) (vs++[(a:Int)]) then dP u (fY K' y) d (vs++[(a:Int)]) else none with | some o=>([o],cnt+1) | none=>([],cnt)):=by
      intro m
      induction m with
      | zero=>intro k b _ _;rfl
      | succ m ihm=>
        intro k b h1 h2;rw[eG (h2 k),List.range'_succ,List.findSome?_cons]
        cases (if gG u (fY K' y) (vs++[(k:Int)]) then dP u (fY K' y) d (vs++[(k:Int)]) else none) with
        | none=>exact ihm (k+1) b h1 h2
        | some o=>
          simp only
          cases m with
          | zero=>rfl
          | succ m=>rw[forI_rt (h1 (k+1) o (cnt+1))];rfl
    refine key u.size.toNat 0 _ (fun a o c=>?_) (fun a=>?_)
    · simp only
      rw[if_pos (by decide),thn_nx]
      rfl
    · simp only
      rw[if_pos (by decide),thn_nx,if_neg (by simp),own_eq _ (by omega),bnd_s,cK (by simp only[List.length_cons,List.length_nil];omega),bnd_s,sureY_eq K' hu h (by rw[hl];omega),bnd_s]
      by_cases hs:gG u (fY K' y) (vs++[(a:Int)])=true
      · rw[if_pos hs,if_pos hs,ih _ cnt (by rw[hl];push_cast;omega) (by omega) hc,bnd_s]
      · rw[if_neg hs,if_neg hs]
theorem findS_len (u:Template) (f:Formula):∀ (d:Nat) (vs o:List Int),dP u f d vs=some o→o.length=vs.length+d
  | 0,vs,o,h=>by
    have:vs=o:=Option.some.inj h;rw[← this];rfl
  | d+1,vs,o,h=>by
    obtain⟨a,_,h2⟩:=List.exists_of_findSome?_eq_some h
    by_cases hs:gG u f (vs++[(a:Int)])=true
    · rw[if_pos hs] at h2
      have:=findS_len u f d _ o h2;rw[List.length_append,List.length_singleton] at this
      omega
    · rw[if_neg hs] at h2;cases h2
theorem Solutions1_eq {T N:Nat} {u:Template} {y:Instance} (hu:TV T u) (h:∀ c∈y.cons,CW u y.vars c) (hv:0≤y.vars∧y.vars≤10) (hN:20≤N) (K':Int):aR N u y 1=some (match dP u (fY K' y) y.vars.toNat [] with | some o=>[o] | none=>[]):=by
  unfold aR
  rw[from_eq hu h hv K' y.vars.toNat N [] 0 (by simp only[List.length_nil];omega) (by omega) (by omega),bnd_s]
  cases dP u (fY K' y) y.vars.toNat []<;>rfl
def fitB (L:List Rel) (vs:List Int) (n:Nat) (a:Int):Bool:=(List.range' 0 vs.length).all fun p=>lfB L p n (vs.getD p 0) a
theorem byPairs1_eq {N V:Nat} {L:List Rel} (h:PairsOk V L) (hV:V≤10) {vs:List Int} {n:Nat} (hn:n<V) (hl:vs.length=n) (a:Int) (hN:1100≤N):cX N a vs L (n:Int)=some (fitB L vs n a):=by
  unfold cX
  rw[aP (fun k _=>if (!lfB L k n (vs.getD k 0) a) then some false else none) (fun j x hj=>by
    have hjl:=(List.getElem?_eq_some_iff.1 hj).1;rw[Nat.zero_add];have hx:=getD_of hj;rw[← hx,(isLeft_two h hV (show j<V by omega) hn (by omega) (vs.getD j 0) a hN).1,bnd_s]
    cases lfB L j n (vs.getD j 0) a<;>rfl),fnd_range (fun k=>!lfB L k n (vs.getD k 0) a)]
  unfold fitB
  rw[← List.not_all_eq_any_not]
  cases (List.range' 0 vs.length).all fun p=>lfB L p n (vs.getD p 0) a<;>rfl
theorem fit_whl {N V : Nat} {L : List Rel} {ρ : Type} (h : PairsOk V L) (hV : V ≤ 10) {vs : List Int} {n : Nat} (hn : n < V) (hl : vs.length = n) (a : Int) (hN : 1100 ≤ N) : ∃ e : Nat, cF (σ := Bool × Int) (ρ := ρ) (fun (s : Bool × Int) =>
           match s with
           | (s434,s435)=>
           vT (σ:=Bool) (
            if (decide (s435<(n:Int))) then  some (.nx s434) else  some (.nx false)) fun s450=>
           if s450 then
            xY (ix vs s435) fun z453=>
            xY (kM L s435 (n:Int) z453 a) fun z458=>
            xY (ck (s435+1)) fun z460=>
            some (.go (z458,z460))
           else
            some (.brk (s434,s435))) N (true,0)=some (.nx (fitB L vs n a,(e:Int))):=by
  refine whl_all (List.range' 0 vs.length) (fun p=>lfB L p n (vs.getD p 0) a) (fun q t hq=>?_) (fun f q hfq=>?_) (List.range' 0 vs.length) 0 N rfl (by rw[List.length_range'];omega)
  · have hql:=(List.getElem?_eq_some_iff.1 hq).1
    rw[List.length_range'] at hql
    have ht:t=q:=by
      rw[List.getElem?_range' (by omega)] at hq;have:=Option.some.inj hq
      omega
    subst ht;simp only;rw[if_pos (by simp;omega),thn_nx,if_pos rfl,eF hql,bnd_s,(isLeft_two h hV (show t<V by omega) hn (by omega) (vs.getD t 0) a hN).2,bnd_s,aJ (by omega) (by omega),bnd_s]
    rfl
  · rw[List.length_range'] at hfq
    by_cases hl2:((q:Int)<(n:Int))
    · have hf:f=false:=by
        rcases hfq with h | h
        · exact h
        · omega
      subst hf
      simp [hl2]
    · simp [hl2]
structure Good (V:Nat) (L:List Rel) (n:Nat) (vs:List Int):Prop where
  l:vs.length=n
  b:∀ p,p<n→vs.getD p 0=0∨vs.getD p 0=1
  g:∀ p q,p<q→q<n→lfB L p q (vs.getD p 0) (vs.getD q 0)=true
theorem lf_bit {V:Nat} {L:List Rel} (h:PairsOk V L) {i j:Nat} (hi:i<j) (hj:j<V) {d:List Int} (hd:d∈prel L i j):d=[d.getD 0 0,d.getD 1 0]∧(d.getD 0 0=0∨d.getD 0 0=1)∧(d.getD 1 0=0∨d.getD 1 0=1):=by
  obtain⟨h1,h2⟩:=h.at hi hj;obtain⟨m1,m2⟩:=dN.1 (h2.m d hd)
  match d,m1 with
  | [a,b],_=>
    have ha:=m2 a (by simp);have hb:=m2 b (by simp);refine⟨rfl,?_,?_⟩
    · show a=0∨a=1;omega
    · show b=0∨b=1;omega
theorem helly {V:Nat} {L:List Rel} (h:PairsOk V L) (hp:PathOk V L) {n:Nat} {vs:List Int} (hn:n<V) (hG:Good V L n vs) (h1:n=1→∃ b:Int,(b=0∨b=1)∧lfB L 0 1 (vs.getD 0 0) b=true) (hn1:1≤n):fitB L vs n 0=true∨fitB L vs n 1=true:=by
  have hall:∀ a:Int,fitB L vs n a=true↔∀ p,p<n→lfB L p n (vs.getD p 0) a=true:=fun a=>by
    unfold fitB
    rw[List.all_eq_true,hG.l]
    constructor
    · intro h p hp
      exact h p (List.mem_range'_1.2 (by omega))
    · intro h p hp
      have:=List.mem_range'_1.1 hp;exact h p (by omega)
  have lfsym:∀ (p q:Nat) (a b:Int),p≠q→lfB L p q a b=lfB L q p b a:=fun p q a b hne=>by
    unfold lfB
    rcases Nat.lt_or_ge q p with h | h
    · rw[if_pos h,if_neg (by omega)]
    · rw[if_neg (show ¬ q<p by omega),if_pos (by omega)]
  rw[hall,hall]
  by_cases h0:∀ p,p<n→lfB L p n (vs.getD p 0) 0=true
  · exact .inl h0
  · refine .inr ?_
    simp only[Classical.not_forall] at h0;obtain⟨q,hq,hq0⟩:=h0
    have meet:∀ p,p<n→p≠q→lfB L p n (vs.getD p 0) 1=true∧lfB L q n (vs.getD q 0) 1=true:=fun p hpn hne=>by
      rcases Nat.lt_or_ge p q with hlt | hge
      · have hg:=hG.g p q hlt hq
        have hmem:[vs.getD p 0,vs.getD q 0]∈prel L p q:=by
          unfold lfB at hg
          rw[if_neg (by omega)] at hg
          simpa using hg
        have hs:=hp p q n hlt (by omega) hn (by omega) (by omega) _ hmem
        unfold supB at hs
        rw[List.any_eq_true] at hs;obtain⟨v,hv,hs⟩:=hs;have hv2:=List.mem_range'_1.1 hv;rw[Bool.and_eq_true] at hs;obtain⟨s1,s2⟩:=hs
        change lfB L p n (vs.getD p 0) (v:Int)=true at s1
        change lfB L n q (v:Int) (vs.getD q 0)=true at s2
        rw[lfsym n q _ _ (by omega)] at s2
        have:v=0∨v=1:=by omega
        rcases this with rfl | rfl
        · exact absurd s2 hq0
        · exact⟨s1,s2⟩
      · have hlt:q<p:=by omega
        have hg:=hG.g q p hlt hpn
        have hmem:[vs.getD q 0,vs.getD p 0]∈prel L q p:=by
          unfold lfB at hg
          rw[if_neg (by omega)] at hg
          simpa using hg
        have hs:=hp q p n hlt (by omega) hn (by omega) (by omega) _ hmem
        unfold supB at hs
        rw[List.any_eq_true] at hs;obtain⟨v,hv,hs⟩:=hs;have hv2:=List.mem_range'_1.1 hv;rw[Bool.and_eq_true] at hs;obtain⟨s1,s2⟩:=hs
        change lfB L q n (vs.getD q 0) (v:Int)=true at s1
        change lfB L n p (v:Int) (vs.getD p 0)=true at s2
        rw[lfsym n p _ _ (by omega)] at s2
        have:v=0∨v=1:=by omega
        rcases this with rfl | rfl
        · exact absurd s1 hq0
        · exact⟨s2,s1⟩
    have hq1:lfB L q n (vs.getD q 0) 1=true:=by
      by_cases hn2:n=1
      · obtain⟨b,hb,hb2⟩:=h1 hn2
        have:q=0:=by omega
        subst this;subst hn2
        rcases hb with rfl | rfl
        · exact absurd hb2 hq0
        · exact hb2
      · have:∃ p,p<n∧p≠q:=by
          by_cases hq2:q=0
          · exact⟨1,by omega,by omega⟩
          · exact⟨0,by omega,by omega⟩
        obtain⟨p,hp1,hp2⟩:=this;exact(meet p hp1 hp2).2
    intro p hpn
    by_cases hpq:p=q
    · rw[hpq];exact hq1
    · exact(meet p hpn hpq).1
def pickV (L:List Rel) (vs:List Int) (n:Nat):Int:=if fitB L vs n 0 then 0 else 1
theorem pick_fit {L:List Rel} {vs:List Int} {n:Nat} (h:fitB L vs n 0=true∨fitB L vs n 1=true):fitB L vs n (pickV L vs n)=true:=by
  unfold pickV
  split
  · assumption
  · exact h.resolve_left (by assumption)
theorem good_next {V:Nat} {L:List Rel} {n:Nat} {vs:List Int} (hG:Good V L n vs) (h:fitB L vs n (pickV L vs n)=true):Good V L (n+1) (vs++[pickV L vs n]):=by
  have hl:=hG.l
  have g1:∀ p,p<n→(vs++[pickV L vs n]).getD p 0=vs.getD p 0:=fun p hp=>by
    rw[List.getD_eq_getElem?_getD,List.getD_eq_getElem?_getD,List.getElem?_append_left (by omega)]
  have g2:(vs++[pickV L vs n]).getD n 0=pickV L vs n:=by
    rw[List.getD_eq_getElem?_getD,List.getElem?_append_right (by omega),hl,Nat.sub_self]
    rfl
  refine⟨by rw[List.length_append,hl];rfl,fun p hp=>?_,fun p q hpq hq=>?_⟩
  · rcases Nat.lt_or_ge p n with h1 | h1
    · rw[g1 p h1];exact hG.b p h1
    · obtain rfl:p=n:=by omega
      rw[g2]
      unfold pickV
      split
      · exact .inl rfl
      · exact .inr rfl
  · rcases Nat.lt_or_ge q n with h1 | h1
    · rw[g1 q h1,g1 p (by omega)];exact hG.g p q hpq h1
    · obtain rfl:q=n:=by omega
      rw[g2,g1 p hpq]
      unfold fitB at h
      rw[List.all_eq_true] at h;exact h p (List.mem_range'_1.2 (by omega))
theorem look_whl {N V : Nat} {L : List Rel} {ρ : Type} (h : PairsOk V L) (hV : V ≤ 10) {vs : List Int} {n : Nat} (hn : n < V) (hl : vs.length = n) (hN : 1100 ≤ N) (hf : fitB L vs n 0 = true ∨ fitB L vs n 1 = true) {sz : Int} (hsz : sz = 2) : cF (σ := Int × Bool) (ρ := ρ) (fun (s : Int × Bool) =>
       match s with
       | (s384,s386)=>
       vT (σ:=Bool) (
        if (!s386) then  some (.nx (decide (s384<sz))) else  some (.nx false)) fun s403=>
       if s403 then
        vT (σ:=Bool×Int) (
         cF (σ:=Bool×Int) (ρ:=(Ctl (Int×Bool) ρ)) (fun(s:Bool×Int)=>
           match s with
           | (s434,s435)=>
           vT (σ:=Bool) (
            if (decide (s435<(n:Int))) then  some (.nx s434) else  some (.nx false)) fun s450=>
           if s450 then
            xY (ix vs s435) fun z453=>
            xY (kM L s435 (n:Int) z453 s384) fun z458=>
            xY (ck (s435+1)) fun z460=>
            some (.go (z458,z460))
           else
            some (.brk (s434,s435))) N (true,0)) fun(s437,s438)=>
        if (!s437) then
         xY (ck (s384+1)) fun z463=>
         some (.go (z463,s437))
        else
         some (.go (s384,s437))
       else
        some (.brk (s384,s386))) N (0,false)=some (.nx (pickV L vs n,true)):=by
  subst hsz;obtain⟨M,rfl⟩:∃ M,N=M+3:=⟨N - 3,by omega⟩;obtain⟨e0,w0⟩:=fit_whl (N:=M+3) (ρ:=(Ctl (Int×Bool) ρ)) h hV hn hl 0 hN;obtain⟨e1,w1⟩:=fit_whl (N:=M+3) (ρ:=(Ctl (Int×Bool) ρ)) h hV hn hl 1 hN;have hc:ck ((0:Int)+1)=some 1:=rfl
  unfold pickV
  by_cases h0:fitB L vs n 0=true
  · rw[h0] at w0
    rw[show M+3=(M+2)+1 from rfl,fC (s':=(0,true)) (by
      simp only[Bool.not_false,if_true,show decide ((0:Int)<2)=true from rfl,thn_nx,w0,Bool.not_true,Bool.false_eq_true,if_false]),show M+2=(M+1)+1 from rfl,bY (s':=(0,true)) (by
      simp only[Bool.not_true,Bool.false_eq_true,if_false,thn_nx]),if_pos h0]
  · have h1:=hf.resolve_left h0
    have h0':fitB L vs n 0=false:=by simpa using h0
    rw[h0'] at w0;rw[h1] at w1
    rw[show M+3=(M+2)+1 from rfl,fC (s':=(1,false)) (by
      simp only[Bool.not_false,if_true,show decide ((0:Int)<2)=true from rfl,thn_nx,w0,hc,bnd_s]),show M+2=(M+1)+1 from rfl,fC (s':=(1,true)) (by
      simp only[Bool.not_false,if_true,show decide ((1:Int)<2)=true from rfl,thn_nx,w1,Bool.not_true,Bool.false_eq_true,if_false]),bY (s':=(1,true)) (by
      simp only[Bool.not_true,Bool.false_eq_true,if_false,thn_nx]),if_neg h0]
theorem index_pick {N V:Nat} {L:List Rel} (h:PairsOk V L) (hV:V≤10) {vs:List Int} {n:Nat} (hn:n<V) (hl:vs.length=n) (hN:1100≤N) (hf:fitB L vs n 0=true∨fitB L vs n 1=true):qW (iotA 0 2) (fun a0=>cX N a0 vs L (n:Int))=some (pickV L vs n):=by
  rw[indexFst (iotA 0 2) (fitB L vs n) _ (fun a=>byPairs1_eq h hV hn hl a hN)];have e:iotA 0 2=[0,1]:=rfl;rw[e]
  unfold fstI pickV
  by_cases h0:fitB L vs n 0=true
  · rw[if_pos h0,if_pos h0];rfl
  · rw[if_neg h0,if_neg h0]
    unfold fstI
    rw[if_pos (hf.resolve_left h0)]
    rfl
def allV (L:List Rel):Nat→Nat→List Int→List Int
  | 0,_,vs=>vs
  | m+1,n,vs=>allV L m (n+1) (vs++[pickV L vs n])
theorem allV_len (L:List Rel):∀ (m n:Nat) (vs:List Int),(allV L m n vs).length=vs.length+m
  | 0,_,_=>rfl
  | m+1,n,vs=>by rw[allV,allV_len L m];simp;omega
def Seed (L:List Rel) (n:Nat) (vs:List Int):Prop:=n=1→∃ b:Int,(b=0∨b=1)∧lfB L 0 1 (vs.getD 0 0) b=true
theorem impl_vals {N V:Nat} {L:List Rel} (h:PairsOk V L) (hp:PathOk V L) (hV:V≤10) (hN:1100≤N) {sz:Int} (hsz:sz=2) {ρ:Type} (r:ρ):∀ (m n M:Nat) (vs:List Int),n+m=V→m<M→1≤n→Good V L n vs→Seed L n vs →
    cF (σ:=(List Int)×Int) (ρ:=ρ) (fun(s:(List Int)×Int)=>
      match s with
      | (s127,s131)=>
      if (decide (s131<(V:Int))) then
       xY (iN 0 sz) fun z146=>
       xY (qW z146 (fun a0=>cX N a0 s127 L s131)) fun z151=>
       if (decide (z151<0)) then
        some (.ret r)
       else
        xY (ap s127 ([z151])) fun z157=>
        xY (ck (s131+1)) fun z162=>
        some (.go (z157,z162))
      else
       some (.brk (s127,s131))) M (vs,(n:Int))=some (.nx (allV L m n vs,(V:Int)))
  | 0,n,M,vs,hnm,hM,h1,hG,hS=>by
    obtain⟨M,rfl⟩:∃ M',M=M'+1:=⟨M - 1,by omega⟩
    obtain rfl:n=V:=by omega
    exact bY (by simp only;rw[if_neg (by simp)];rfl)
  | m+1,n,M,vs,hnm,hM,h1,hG,hS=>by
    obtain⟨M,rfl⟩:∃ M',M=M'+1:=⟨M - 1,by omega⟩;have hf:=helly h hp (show n<V by omega) hG hS h1;have hl:=hG.l
    have hpv:pickV L vs n=0∨pickV L vs n=1:=by unfold pickV;split<;>simp
    have hu:iN 0 sz=some (iotA 0 2):=by subst hsz;exact upTo_eq (V:=0) (m:=2) (by omega) (by omega)
    rw[fC (s':=(vs++[pickV L vs n],((n+1:Nat):Int))) (by
      simp only;rw[if_pos (by simp;omega),hu,bnd_s,index_pick h hV (by omega) hl hN hf,bnd_s,if_neg (by simp;omega),cK (by simp only[List.length_cons,List.length_nil];omega),bnd_s,aJ (by omega) (by omega),bnd_s]
      rfl)]
    rw[allV];exact impl_vals h hp hV hN hsz r m (n+1) M _ (by omega) (by omega) (by omega) (good_next hG (pick_fit hf)) (fun h9=>by omega)
theorem spec_vals {N V:Nat} {L:List Rel} (h:PairsOk V L) (hp:PathOk V L) (hV:V≤10) (hN:1100≤N) {sz:Int} (hsz:sz=2) {ρ:Type}:∀ (m k:Nat) (vs:List Int),1+k+m=V→Good V L (1+k) vs→Seed L (1+k) vs →
    zH (σ:=(List Int)) (ρ:=ρ) (fun(k297:Nat) (s291:(List Int))=>
    vT (σ:=Int×Bool) (
     cF (σ:=Int×Bool) (ρ:=(Ctl ((List Int)) ρ)) (fun(s:Int×Bool)=>
       match s with
       | (s384,s386)=>
       vT (σ:=Bool) (
        if (!s386) then  some (.nx (decide (s384<sz))) else  some (.nx false)) fun s403=>
       if s403 then
        vT (σ:=Bool×Int) (
         cF (σ:=Bool×Int) (ρ:=(Ctl (Int×Bool) (Ctl ((List Int)) ρ))) (fun(s:Bool×Int)=>
           match s with
           | (s434,s435)=>
           vT (σ:=Bool) (
            if (decide (s435<(1+(k297:Int)))) then  some (.nx s434) else  some (.nx false)) fun s450=>
           if s450 then
            xY (ix s291 s435) fun z453=>
            xY (kM L s435 (1+(k297:Int)) z453 s384) fun z458=>
            xY (ck (s435+1)) fun z460=>
            some (.go (z458,z460))
           else
            some (.brk (s434,s435))) N (true,0)) fun(s437,s438)=>
        if (!s437) then
         xY (ck (s384+1)) fun z463=>
         some (.go (z463,s437))
        else
         some (.go (s384,s437))
       else
        some (.brk (s384,s386))) N (0,false)) fun(s387,s389)=>
    xY (ap s291 ([s387])) fun z467=>
    some (.go z467)) m k vs=some (.nx (allV L m (1+k) vs))
  | 0,k,vs,_,_,_=>rfl
  | m+1,k,vs,hm,hG,hS=>by
    have hf:=helly h hp (show 1+k<V by omega) hG hS (by omega);have hl:=hG.l
    have hk:(1:Int)+(k:Int)=((1+k:Nat):Int):=by omega
    have hw:=look_whl (N:=N) (ρ:=(Ctl ((List Int)) ρ)) h hV (show 1+k<V by omega) hl hN hf hsz
    rw[eG (s':=vs++[pickV L vs (1+k)]) (by
      simp only[hk]
      rw[hw,thn_nx,cK (by simp only[List.length_cons,List.length_nil];omega),bnd_s])]
    rw[allV];exact spec_vals h hp hV hN hsz m (k+1) _ (by omega) (good_next hG (pick_fit hf)) (fun h9=>by omega)
structure PK (u:Template) (y:Instance) (V:Nat) (L:List Rel):Prop where
  sol:∀ vs,Sol u y vs→∀ i j,i<j→j<V→[vs.getD i 0,vs.getD j 0]∈prel L i j
  sub:∀ i j,i<j→j<V→∀ d∈prel L i j,pairW u y (i:Int) (j:Int) d=true
theorem no_hits {i j:Nat} {vs t:List Int}:∀ (l:List Int) (k:Nat),(∀ (m:Nat) (v:Int),l[m]?=some v→t.getD (k+m) 0=vs.getD v.toNat 0)→hitsB (i:Int) (j:Int) (vs.getD i 0) (vs.getD j 0) t l k=false
  | [],_,_=>rfl
  | v::l,k,h=>by
    unfold hitsB
    rw[no_hits l (k+1) (fun m w hm=>by have:=h (m+1) w (by simpa using hm);rw[Nat.add_assoc,Nat.add_comm 1 m];exact this),Bool.or_false];have h1:=h 0 v rfl;rw[Nat.add_zero] at h1
    unfold hitB
    rw[h1]
    have e (i:Nat):(v==(i:Int) && vs.getD v.toNat 0 != vs.getD i 0)=false:=by
      by_cases e:v=i
      · subst e;rw[Int.toNat_natCast];simp
      · have:(v==(i:Int))=false:=by simpa using e
        rw[this];rfl
    rw[e i,e j];rfl
theorem hits_get {i j a b:Int} {t:List Int}:∀ (l:List Int) (k:Nat),hitsB i j a b t l k=false→∀ (m:Nat) (v:Int),l[m]?=some v→(v=i→t.getD (k+m) 0=a)∧(v=j→t.getD (k+m) 0=b)
  | [],_,_,m,v,h=>by simp at h
  | w::l,k,h,m,v,hm=>by
    unfold hitsB at h
    rw[Bool.or_eq_false_iff] at h
    cases m with
    | zero=>
      simp at hm
      subst hm;have h1:=h.1
      unfold hitB at h1
      rw[Bool.or_eq_false_iff] at h1;rw[Nat.add_zero]
      constructor
      · intro e
        have h2:=h1.1;rw[e] at h2
        simpa using h2
      · intro e
        have h2:=h1.2;rw[e] at h2
        simpa using h2
    | succ m=>
      have:=hits_get l (k+1) h.2 m v (by simpa using hm);rw[Nat.add_assoc,Nat.add_comm 1 m] at this;exact this
theorem sol_pairW {u:Template} {y:Instance} {vs:List Int} (hC:∀ c∈y.cons,CV u y.vars c) (hS:Sol u y vs) (i j:Nat):pairW u y (i:Int) (j:Int) [vs.getD i 0,vs.getD j 0]=true:=by
  unfold pairW
  rw[List.all_eq_true];intro c hc
  unfold allowB
  split
  · rfl
  · rw[List.any_eq_true]
    have h:=hS.2.2 c hc
    unfold conS at h
    rw[decide_eq_true_iff] at h;refine⟨_,h,?_⟩
    unfold tupB
    rw[ag_at,show hitsB (i:Int) (j:Int) ([vs.getD i 0,vs.getD j 0].getD 0 0) ([vs.getD i 0,vs.getD j 0].getD 1 0) (atV vs c.scope) c.scope 0=false from no_hits c.scope 0 (fun m v hm=>by rw[Nat.zero_add];exact at_get hm)]
    rfl
theorem PK.start {u:Template} {y:Instance} {V:Nat} (hC:∀ c∈y.cons,CV u y.vars c) (L:List Rel) (h:PairsOk V L) (hat:∀ i j,i<j→j<V→L[tri j+i]?=some (pairR u y (i:Int) (j:Int))):PK u y V L:=by
  have hp:∀ i j,i<j→j<V→prel L i j=(aQ 2 2).filter (pairW u y (i:Int) (j:Int)):=fun i j hi hj=>by
    unfold prel
    rw[List.getD_eq_getElem?_getD,hat i j hi hj];rfl
  refine⟨fun vs hS i j hi hj=>?_,fun i j hi hj d hd=>?_⟩
  · rw[hp i j hi hj,List.mem_filter]
    refine⟨dN.2 ⟨rfl,fun a ha=>?_⟩,sol_pairW hC hS i j⟩;simp only[List.mem_cons,List.not_mem_nil,or_false] at ha
    rcases ha with rfl | rfl
    · rcases bitD hS.2.1 i with e | e<;>rw[e]<;>simp
    · rcases bitD hS.2.1 j with e | e<;>rw[e]<;>simp
  · rw[hp i j hi hj] at hd
    exact(List.mem_filter.1 hd).2
theorem tri_inj {i j i' j':Nat} (h:i<j) (h':i'<j') (e:tri j+i=tri j'+i'):j=j'∧i=i':=by
  rcases Nat.lt_trichotomy j j' with h1 | h1 | h1
  · have:=tri_lt h h1;omega
  · subst h1;omega
  · have:=tri_lt h' h1;omega
theorem tri_sur:∀ (V x:Nat),x<tri V→∃ i j,i<j∧j<V∧x=tri j+i
  | 0,x,h=>by unfold tri at h;omega
  | V+1,x,h=>by
    by_cases h1:x<tri V
    · obtain⟨i,j,a,b,c⟩:=tri_sur V x h1
      exact⟨i,j,a,by omega,c⟩
    · have h:x<tri V+V:=h
      exact⟨x - tri V,V,by omega,by omega,by omega⟩
theorem PK.lf {u:Template} {y:Instance} {V:Nat} {L:List Rel} (h:PK u y V L) {vs:List Int} (hS:Sol u y vs) {p q:Nat} (hp:p<V) (hq:q<V) (hne:p≠q):lfB L p q (vs.getD p 0) (vs.getD q 0)=true:=by
  unfold lfB
  split
  · exact decide_eq_true (h.sol vs hS q p (by omega) hp)
  · exact decide_eq_true (h.sol vs hS p q (by omega) hq)
theorem PK.narr (u:Template) (y:Instance) (V:Nat):Narr (PK u y V) V:=fun L i j k hok h hi hj hk hki hkj=>by
  have hp:∀ i' j',i'<j'→prel (L.set (tri j+i) ⟨2,(prel L i j).filter (supB L i j k)⟩) i' j'=if i'=i∧j'=j then (prel L i j).filter (supB L i j k) else prel L i' j':=fun i' j' h'=>by
    show(List.getD (L.set _ _) (tri j'+i') default).tuples=_
    rw[List.getD_eq_getElem?_getD]
    split
    · rename_i e
      obtain⟨rfl,rfl⟩:=e;rw[List.getElem?_set_self (by rw[hok.len];exact tri_lt hi hj)];rfl
    · rename_i e
      rw[List.getElem?_set_ne (fun e2=>e (by have:=tri_inj hi h' e2;omega)),← List.getD_eq_getElem?_getD];rfl
  refine⟨fun vs hS i' j' hi' hj'=>?_,fun i' j' hi' hj' d hd=>?_⟩
  · rw[hp i' j' hi']
    split
    · rename_i e
      obtain⟨rfl,rfl⟩:=e;refine List.mem_filter.2 ⟨h.sol vs hS i' j' hi' hj',?_⟩
      unfold supB
      have e1:=h.lf hS (show i'<V by omega) hk (fun e=>hki e.symm);have e2:=h.lf hS hk hj' hkj;rw[List.any_eq_true];refine⟨(vs.getD k 0).toNat,List.mem_range'_1.2 ?_,?_⟩
      · rcases bitD hS.2.1 k with e | e<;>rw[e]<;>decide
      · have hv:(((vs.getD k 0).toNat:Nat):Int)=vs.getD k 0:=by rcases bitD hS.2.1 k with e | e<;>rw[e]<;>rfl
        rw[hv]
        show(lfB L i' k (vs.getD i' 0) (vs.getD k 0) && lfB L k j' (vs.getD k 0) (vs.getD j' 0))=true
        rw[e1,e2];rfl
    · exact h.sol vs hS i' j' hi' hj'
  · rw[hp i' j' hi'] at hd
    split at hd
    · rename_i e
      obtain⟨rfl,rfl⟩:=e;exact h.sub i' j' hi' hj' d (List.mem_filter.1 hd).1
    · exact h.sub i' j' hi' hj' d hd
theorem pair_of {V v w:Nat} (h2:2≤V) (hv:v<V) (hw:w<V):∃ p q,p<q∧q<V∧(v=p∨v=q)∧(w=p∨w=q):=by
  rcases Nat.lt_trichotomy v w with h | h | h
  · exact⟨v,w,h,hw,.inl rfl,.inr rfl⟩
  · subst h
    by_cases h0:v=0
    · exact⟨0,1,by omega,by omega,.inl h0,.inl h0⟩
    · exact⟨0,v,by omega,hv,.inr rfl,.inr rfl⟩
  · exact⟨w,v,h,hv,.inr rfl,.inl rfl⟩
theorem good_sol {u:Template} {y:Instance} {V:Nat} {L:List Rel} {out:List Int} (hu:TV 2 u) (hC:∀ c∈y.cons,CV u y.vars c) (hA:∀ r∈u.rels,r.arity≤2) (hV:y.vars=V) (h2:2≤V) (hP:PK u y V L) (hG:Good V L V out):Sol u y out:=by
  refine⟨by rw[hG.l];exact hV.symm,fun a ha=>?_,fun c hc=>?_⟩
  · obtain⟨p,hp⟩:=List.mem_iff_getElem?.1 ha
    have hpl:=(List.getElem?_eq_some_iff.1 hp).1;have:=hG.b p (by have:=hG.l;omega);rw[List.getD_eq_getElem?_getD,hp] at this;have:a=0∨a=1:=this
    omega
  · obtain⟨hsc,r,r0,r1,r2,r3⟩:=hC c hc
    have ha:=hA r r2;obtain⟨n,e,n1,_,_,hen⟩:=hu.r r r2
    have hg:u.rels.getD c.rel.toNat default=r:=by rw[List.getD_eq_getElem?_getD,r1];rfl
    have key:∀ p q:Nat,p<q→q<V→(∃ v∈c.scope,v.toNat=p∨v.toNat=q)→∃ t∈r.tuples,t.length=c.scope.length∧∀ (m:Nat) (v:Int),c.scope[m]?=some v→v.toNat=p∨v.toNat=q→t.getD m 0=out.getD v.toNat 0:=fun p q hpq hq hex=>by
      have hl:=hG.g p q hpq hq
      unfold lfB at hl
      rw[if_neg (by omega),decide_eq_true_iff] at hl;have hw:=List.all_eq_true.1 (hP.sub p q hpq hq _ hl) c hc
      unfold allowB at hw
      have hno:(!(c.scope.any (· == (p:Int))) && !(c.scope.any (· == (q:Int))))=false:=by
        obtain⟨v,hv,hvp⟩:=hex;have h0:=(hsc v hv).1
        rcases hvp with e | e
        · have:c.scope.any (· == (p:Int))=true:=List.any_eq_true.2 ⟨v,hv,by rw[beq_iff_eq];omega⟩
          rw[this];rfl
        · have:c.scope.any (· == (q:Int))=true:=List.any_eq_true.2 ⟨v,hv,by rw[beq_iff_eq];omega⟩
          rw[this];simp
      rw[hno,if_neg (by simp),hg,List.any_eq_true] at hw;obtain⟨t,ht,hb⟩:=hw
      unfold tupB at hb
      rw[Bool.and_eq_true,Bool.not_eq_true'] at hb;refine⟨t,ht,by have:=(dN.1 (hen t ht)).1;omega,fun m v hm hv=>?_⟩;have h3:=hits_get _ _ hb.1 m v hm;rw[Nat.zero_add] at h3;have h0:=(hsc v (List.mem_of_getElem? hm)).1
      rcases hv with e | e
      · rw[h3.1 (by omega),e];rfl
      · rw[h3.2 (by omega),e];rfl
    unfold conS
    rw[hg,decide_eq_true_iff]
    match hcs:c.scope,key,r3 with
    | [],_,r3=>simp at r3;omega
    | [v],key,r3=>
      have hv:=hsc v (by rw[hcs];simp);obtain⟨p,q,h1,h3,h4,_⟩:=pair_of h2 (show v.toNat<V by omega) (show v.toNat<V by omega);obtain⟨t,ht,hl,hk⟩:=key p q h1 h3 ⟨v,by simp,h4⟩
      match t,hl with
      | [x],_=>
        have:x=out.getD v.toNat 0:=hk 0 v rfl h4
        show[out.getD v.toNat 0]∈r.tuples
        rw[← this];exact ht
    | [v,w],key,r3=>
      have hv:=hsc v (by rw[hcs];simp);have hw:=hsc w (by rw[hcs];simp);obtain⟨p,q,h1,h3,h4,h5⟩:=pair_of h2 (show v.toNat<V by omega) (show w.toNat<V by omega);obtain⟨t,ht,hl,hk⟩:=key p q h1 h3 ⟨v,by simp,h4⟩
      match t,hl with
      | [x,z],_=>
        have e1:x=out.getD v.toNat 0:=hk 0 v rfl h4;have e2:z=out.getD w.toNat 0:=hk 1 w rfl h5
        show[out.getD v.toNat 0,out.getD w.toNat 0]∈r.tuples
        rw[← e1,← e2];exact ht
    | _::_::_::_,_,r3=>simp at r3;omega
theorem all_good {V:Nat} {L:List Rel} (h:PairsOk V L) (hp:PathOk V L):∀ (m n:Nat) (vs:List Int),n+m=V→1≤n→Good V L n vs→Seed L n vs→Good V L V (allV L m n vs)
  | 0,n,vs,hn,_,hG,_=>by
    obtain rfl:n=V:=by omega
    exact hG
  | m+1,n,vs,hn,h1,hG,hS=>by
    rw[allV];exact all_good h hp m (n+1) _ (by omega) (by omega) (good_next hG (pick_fit (helly h hp (by omega) hG hS h1))) (fun h9=>by omega)
theorem byPairs_two {N:Nat} {u:Template} {y:Instance} (hu:TV 2 u) (hv:1≤y.vars∧y.vars≤10) (hy:y.cons.length≤24) (hC:∀ c∈y.cons,CV u y.vars c) (hA:∀ r∈u.rels,r.arity≤2) (hN:1100≤N):aB (fD N u y) (gY N u y) (fun r r'=>r=r'∧r.1.length≤10∧Ans u y r):=by
  have hCW:∀ c∈y.cons,CW u y.vars c:=fun c hc=>cv_cw hu (hC c hc)
  unfold fD gY
  by_cases h1:y.vars=1
  · have e:(y.vars==1)=true:=by simpa using h1
    rw[if_pos e,if_pos e];have hF:FX u (fY 1 y):=fY_FX hCW (by omega) hv.2 hy;have s1:eN (Template.mk u.size u.rels) (Instance.mk y.vars y.cons)=some (solS u (fY 1 y)):=solverFor_eq hu hF;rw[s1,bnd_s,first0_eq hu hF hN,bnd_s,Solutions1_eq hu hCW (by omega) (by omega) 1,bnd_s];have hfv:(fY 1 y).vars.toNat=y.vars.toNat:=rfl;rw[hfv];have hlen:=findS_len u (fY 1 y) y.vars.toNat []
    cases hfs:dP u (fY 1 y) y.vars.toNat [] with
    | none=>exact aB.s ⟨rfl,Nat.zero_le _,(fun h=>nomatch h),fun _ vs hS=>by have:=sol_find hu hC hS;rw[hfs] at this;cases this⟩
    | some o=>
      have:=hlen o hfs;simp only;exact aB.s ⟨rfl,by show o.length≤10;rw[this];simp only[List.length_nil];omega,(fun _=>find_sol hu hC (by omega) hfs),fun h=>nomatch h⟩
  · have e:(y.vars==1)=false:=by simpa using h1
    rw[e,if_neg (by simp),if_neg (by simp)];obtain⟨V,hV⟩:∃ V:Nat,y.vars=V:=⟨y.vars.toNat,by omega⟩;obtain⟨L0,L,out,f1,f2,f3,hok,hp,hk⟩:=makePairs_two hu hy hC hV (by omega) hN (PK.narr u y V) (PK.start hC);have f2':cY N (Template.mk u.size u.rels) (Instance.mk y.vars y.cons)=some (L,out):=f2;rw[f2',f1,bnd_s,bnd_s,f3,bnd_s];simp only;rw[containsR_eq L (fun r=>(r.tuples.length:Int)==0) (fun a0=>gK a0) (fun r _=>rfl),bnd_s]
    rw[aP (fun _ (r:Rel)=>if ((r.tuples.length:Int)==0) then some (([]:List Int),false) else none) (fun j r hj=>by
      by_cases hr:((r.tuples.length:Int)==0)=true
      · rw[if_pos hr,if_pos hr];rfl
      · rw[if_neg hr,if_neg hr];rfl),fnd_any]
    cases hany:L.any (fun r=>(r.tuples.length:Int)==0) with
    | true=>
      refine aB.s ⟨rfl,Nat.zero_le _,(fun h=>nomatch h),fun _ vs hS=>?_⟩;obtain⟨r,hr,he⟩:=List.any_eq_true.1 hany;obtain⟨x,hx⟩:=List.mem_iff_getElem?.1 hr;have hxl:=(List.getElem?_eq_some_iff.1 hx).1;obtain⟨i,j,hi,hj,rfl⟩:=tri_sur V x (by rw[← hok.len];exact hxl);have hm:=hk.sol vs hS i j hi hj
      unfold prel at hm
      rw[List.getD_eq_getElem?_getD,hx,Option.getD_some] at hm
      cases ht:r.tuples with
      | nil=>rw[ht] at hm;cases hm
      | cons a b=>rw[ht] at he;simp at he;omega
    | false=>
      have hlt:tri 1+0<tri V:=tri_lt (by omega) (by omega);obtain⟨a1,a2⟩:=hok.at (i:=0) (j:=1) (by omega) (by omega)
      have hne:(L.getD (tri 1+0) default).tuples≠[]:=fun h=>by
        have:=List.any_eq_false.1 hany _ (List.mem_of_getElem? a1);rw[h] at this
        simp at this
      obtain⟨d,ds,hd⟩:=List.exists_cons_of_ne_nil hne
      have hdm:d∈prel L 0 1:=by unfold prel;rw[hd];simp
      obtain⟨b1,b2,b3⟩:=lf_bit hok (show 0<1 by omega) (by omega) hdm;have i1:ix L 0=some (L.getD (tri 1+0) default):=oZ (i:=0) a1
      have i2:ix (L.getD (tri 1+0) default).tuples 0=some d:=by rw[hd];rfl
      have i3:ix d 0=some (d.getD 0 0):=by rw[b1];rfl
      have hG:Good V L 1 [d.getD 0 0]:=by
        refine⟨rfl,fun p hp=>?_,fun p q h1 h2=>by omega⟩
        obtain rfl:p=0:=by omega
        exact b2
      have hS:Seed L 1 [d.getD 0 0]:=fun _=>⟨d.getD 1 0,b3,by
        unfold lfB
        rw[if_neg (by omega)]
        show decide ([d.getD 0 0,d.getD 1 0]∈prel L 0 1)=true
        rw[← b1]
        simpa using hdm⟩
      simp only[Bool.false_eq_true,if_false,outO,thn_nx,i1,i2,i3,bnd_s,hV];have w1:=impl_vals hok hp (by omega) hN hu.s (([]:List Int),false) (V - 1) 1 N [d.getD 0 0] (by omega) (by omega) (by omega) hG hS;have w2:=spec_vals (ρ:=(List Int)×Bool) hok hp (by omega) hN hu.s (V - 1) 0 [d.getD 0 0] (by omega) hG hS;rw[show((1:Nat):Int)=1 from rfl] at w1;rw[w1,thn_nx,show((V:Int) - 1).toNat=V - 1 by omega,w2,thn_nx];exact aB.s ⟨rfl,by show(allV L (V - 1) 1 [d.getD 0 0]).length≤10;rw[allV_len,List.length_singleton];omega,(fun _=>good_sol hu hC hA hV (by omega) hk (all_good hok hp (V - 1) 1 _ (by omega) (by omega) hG hS)),fun h=>nomatch h⟩
end Go.Proofs.YtgnfibiaaipibaaGreat
