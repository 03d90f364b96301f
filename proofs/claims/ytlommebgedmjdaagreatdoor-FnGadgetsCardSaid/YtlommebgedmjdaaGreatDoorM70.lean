import Derived.Test.YtlommebgedmjdaaGreatDoorM55
import Derived.Test.YtlommebgedmjdaaGreatDoorY
namespace Go.Proofs.YtlommebgedmjdaaGreatDoor
set_option linter.unusedVariables false
set_option linter.unusedSimpArgs false
end Go.Proofs.YtlommebgedmjdaaGreatDoor
namespace Go.Proofs.YtlommebgedmjdaaGreatDoor
set_option linter.unusedVariables false
set_option linter.unusedSimpArgs false
theorem xLh {α ρ:Type} {q:Nat→α→Option ρ} {r:ρ}:∀ {l:List α} {k:Nat},fnd q l k=some r→∃ j x,l[j]?=some x∧q (k+j) x=some r
  | [],_,h=>by cases h
  | y::l,k,h=>by
    unfold fnd at h
    cases hq:q k y with
    | some r'=>rw[hq] at h;exact⟨0,y,rfl,by rw[← h];exact hq⟩
    | none=>
      rw[hq] at h;obtain⟨j,x,h1,h2⟩:=xLh (k:=k+1) h;exact⟨j+1,x,by simpa using h1,by rw[← h2];congr 1;omega⟩
theorem xDb {E:List (List Int)} {p:List Int→Bool} {ρ:Type} (g:List Int→ρ):∀ (m k:Nat),k+m=E.length→(List.range' k m).findSome? (fun j=>if p (E.getD j []) then some (g (E.getD j [])) else none)=((E.drop k).filter p).head?.map g
  | 0,k,h=>by rw[List.drop_eq_nil_of_le (by omega)];rfl
  | m+1,k,h=>by
    have hlt:k<E.length:=by omega
    have hg:E.getD k []=E[k]:=by rw[List.getD_eq_getElem?_getD,List.getElem?_eq_getElem hlt];rfl
    rw[List.range'_succ,List.findSome?_cons,List.drop_eq_getElem_cons hlt,List.filter_cons,hg]
    by_cases h1:p E[k]=true
    · rw[if_pos h1,if_pos h1]
      rfl
    · rw[if_neg h1,if_neg h1]
      exact xDb g m (k+1) (by omega)
def xGi (t u:Template) (g:Gadgets):Int×(List Int)×Int:=if uO t u g then (match fnd (iZ t.size.toNat t u) g.formulas 0 with | none=>(0,[],6) | some r=>((r.1:Int),r.2.2,0)) else (0,[],1)
theorem xFz {N:Nat} {t u:Template} {g:Gadgets} (ht:aI t) (hu:aI u) (hN:1100≤N):tR N t u g=some (xGi t u g)∧dS N t u g=some (xGi t u g):=by
  have h0:aG (Template.mk t.size t.rels) (Template.mk u.size u.rels) (Gadgets.mk g.formulas)=some (uO t u g):=(xAq ht hu).2;have h0':fO (Template.mk t.size t.rels) (Template.mk u.size u.rels) (Gadgets.mk g.formulas)=some (uO t u g):=(xAq ht hu).1
  unfold tR dS xGi
  rw[h0,h0',bnd_s,bnd_s]
  by_cases h:uO t u g=true
  · have hG:=tA ht hu h
    have h1:aV N (Template.mk t.size t.rels) (Template.mk u.size u.rels) (Gadgets.mk g.formulas)=_:=(uZ hG hN).2;have h2:eN N (Template.mk t.size t.rels) (Template.mk u.size u.rels) (Gadgets.mk g.formulas)=_:=(uZ hG hN).1;rw[h1,h2,h];simp only[Bool.not_true,Bool.false_eq_true,if_false,bnd_s,if_true]
    cases hq:fnd (iZ t.size.toNat t u) g.formulas 0 with
    | none=>exact⟨rfl,rfl⟩
    | some r=>
      obtain⟨j,f,hj,hw⟩:=xLh hq;rw[Nat.zero_add] at hw;obtain⟨h3,h4,h5⟩:=hG.f j f hj;obtain⟨h6,h7,h8,h9⟩:=hG.rel hj;have hf:=h3.f0
      have hn:1≤f.free.toNat∧f.free.toNat≤4:=by omega
      unfold iZ at hw
      split at hw
      · cases hw
      · rename_i d ds hd
        obtain rfl:=Option.some.inj hw
        have hdm:d∈xBu t.size.toNat t u j f:=by rw[hd];simp
        have hdl:=(iP.1 (List.mem_filter.1 hdm).1).1
        constructor
        · have hlt:¬ ((j:Int)<0):=by omega
          simp only[hlt,decide_false,Bool.false_eq_true,if_false]
          have hp:kL N t.size (dN u f t.size.toNat f.free.toNat).arity=some ((vW t.size.toNat f.free.toNat).length:Int):=by
            rw[hG.tV.s];exact(xCg hG.tV.t hn (by omega)).2
          rw[hp,bnd_s,Int.toNat_natCast];have hE:=rA hG.tV.t hn
          have hfi:=pH (σ:=Unit) (ρ:=Int×(List Int)×Int) (s:=()) (k:=0) (m:=(vW t.size.toNat f.free.toNat).length) (b:=fun(k60:Nat) (s:Unit)=>
      match s with
      | _=>
      xK (kH N t.size (dN u f t.size.toNat f.free.toNat).arity (k60:Int)) fun z66=>
      xK (cW (Rel.mk (dN u f t.size.toNat f.free.toNat).arity (dN u f t.size.toNat f.free.toNat).tuples) z66) fun z71=>
      xK (ix t.rels (j:Int)) fun z73=>
      xK (cW z73 z66) fun z77=>
      if (z71 != z77) then
       some (.ret ((j:Int),z66,0))
      else
       some (.go ())) (fun k => if apart (dN u f t.size.toNat f.free.toNat).tuples (t.rels.getD j default).tuples ((vW t.size.toNat f.free.toNat).getD k []) then some ((j : Int), (vW t.size.toNat f.free.toNat).getD k [], 0) else none) (fun k _ hk => by
            have hk':k<(vW t.size.toNat f.free.toNat).length:=by omega
            have hg:(vW t.size.toNat f.free.toNat).getD k []=(vW t.size.toNat f.free.toNat)[k]:=by rw[List.getD_eq_getElem?_getD,List.getElem?_eq_getElem hk'];rfl
            have hdg:kH N t.size (dN u f t.size.toNat f.free.toNat).arity (k:Int)=some (vW t.size.toNat f.free.toNat)[k]:=by
              have hd1:=xGm hG.tV.t hn (show 10≤N by omega) hk';rw[← hG.tV.s] at hd1;rw[xCs];exact hd1
            simp only[hdg,bnd_s,xCt,zO h5];rw[hg]
            unfold apart
            cases (decide ((vW t.size.toNat f.free.toNat)[k]∈(dN u f t.size.toNat f.free.toNat).tuples) != decide ((vW t.size.toNat f.free.toNat)[k]∈(t.rels.getD j default).tuples))<;>rfl)
          rw[hfi,xDb (fun d=>((j:Int),d,(0:Int))) _ 0 (by omega),List.drop_zero];have hd':(vW t.size.toNat f.free.toNat).filter (apart (dN u f t.size.toNat f.free.toNat).tuples (t.rels.getD j default).tuples)=d::ds:=hd;rw[hd']
          rfl
        · have hlt:¬ ((j:Int)<0):=by omega
          simp only[hlt,decide_false,Bool.false_eq_true,if_false]
          unfold oD
          rw[zD (by simp only[List.length_nil];omega),bnd_s,bnd_s,List.nil_append]
  · have h':uO t u g=false:=by simpa using h
    rw[h'];exact⟨rfl,rfl⟩
end Go.Proofs.YtlommebgedmjdaaGreatDoor
namespace Go.Proofs.YtlommebgedmjdaaGreatDoor
set_option linter.unusedVariables false
set_option linter.unusedSimpArgs false
def sG (V:Int) (m:Nat):List Int:=(List.range m).map fun(i:Nat)=>V+i
theorem xQv (V:Int) (m:Nat):sG V (m+1)=V::sG (V+1) m:=by
  unfold sG
  rw[List.range_succ_eq_map,List.map_cons,List.map_map];simp only[Int.natCast_zero,Int.add_zero,List.cons.injEq,true_and]
  apply List.map_congr_left
  intro i _;simp only[Function.comp]
  push_cast
  omega
theorem xPi {ρ:Type}:∀ (m k:Nat) (tz:List Int) (V:Int),0≤V→V+m≤1000000→tz.length+m≤1000000 →
    aY (σ:=(List Int)×Int) (ρ:=ρ) (fun(k607:Nat) (s:(List Int)×Int)=>
        match s with
        | (s597,s600)=>
        xK (ap s597 ([s600])) fun z618=>
        xK (ck (s600+1)) fun z622=>
        some (.go (z618,z622))) m k (tz,V)=some (.nx (tz++sG V m,V+m))
  | 0,k,tz,V,_,_,_=>by simp [aY,sG]
  | m+1,k,tz,V,h0,h1,h2=>by
    rw[fL (s':=(tz++[V],V+1)) (by
      simp only[zD (l:=tz) (m:=[V]) (by simp only[List.length_cons,List.length_nil];omega),bnd_s,kW (x:=V+1) (by omega) (by omega)]),xPi m (k+1) _ (V+1) (by omega) (by omega) (by rw[List.length_append,List.length_singleton];omega),xQv]
    have e:V+1+(m:Int)=V+((m+1:Nat):Int):=by omega
    rw[e,List.append_assoc,List.singleton_append]
def mvA (g:Int→Int) (l:List Atom):List Atom:=l.map fun b=>⟨b.rel,b.args.map g⟩
theorem xIz {ρ:Type} {b:Nat→Atom→List Atom→Option (Ctl (List Atom) ρ)} (g:Int→Int):∀ (l:List Atom) (k:Nat) (s:List Atom),(∀ (j:Nat) x s,x∈l→s.length≤1000→b j x s=some (.go (s++[⟨x.rel,x.args.map g⟩])))→s.length+l.length≤1000→oM b l k s=some (.nx (s++mvA g l))
  | [],_,s,_,_=>by simp [mvA,oM]
  | x::l,k,s,h,hs=>by
    rw[List.length_cons] at hs;rw[qV (h k x s (by simp) (by omega)),xIz g l (k+1) _ (fun j y s hy=>h j y s (by simp [hy])) (by rw[List.length_append,List.length_singleton];omega)]
    simp [mvA]
theorem xRi {l:List Atom} {tz:List Int} (hl:l.length≤100) (h:∀ b∈l,b.args.length≤100∧∀ i∈b.args,0≤i∧i<tz.length):aM l tz=some (mvA (fun i=>tz.getD i.toNat 0) l):=by
  unfold aM
  rw[xIz (fun i=>tz.getD i.toNat 0) l 0 [] (fun j x s hx hs=>by
    have h1:bV x.args tz=some (aL tz x.args):=lG (h x hx).2 (by have:=(h x hx).1;omega);rw[h1,bnd_s,zD (by simp only[List.length_cons,List.length_nil];omega),bnd_s]
    rfl) (by simp only[List.length_nil];omega),thn_nx,List.nil_append]
theorem xHz {ρ : Type} {f : Int → Option Int} (g : Int → Int) : ∀ (l : List Int) (k : Nat) (s : List Int), (∀ i ∈ l, f i = some (g i)) → s.length + l.length ≤ 1000 → oM (σ := (List Int)) (ρ := ρ) (fun (k213 : Nat) (x215 : Int) (s207 : (List Int)) =>
     xK (f x215) fun z222=>
     xK (ap s207 ([z222])) fun z226=>
     some (.go z226)) l k s=some (.nx (s++l.map g))
  | [],_,s,_,_=>by simp [oM]
  | x::l,k,s,h,hs=>by
    rw[List.length_cons] at hs;rw[qV (s':=s++[g x]) (by rw[h x (by simp),bnd_s,zD (by simp only[List.length_cons,List.length_nil];omega),bnd_s]),xHz g l (k+1) _ (fun i hi=>h i (by simp [hi])) (by rw[List.length_append,List.length_singleton];omega)]
    simp
theorem xGa {l:List Atom} {f:Int→Option Int} (g:Int→Int) (hl:l.length≤100) (h:∀ b∈l,b.args.length≤100∧∀ i∈b.args,f i=some (g i)):zP l f=some (mvA g l):=by
  unfold zP
  rw[xIz g l 0 [] (fun j x s hx hs=>by
    rw[xHz g x.args 0 [] (h x hx).2 (by have:=(h x hx).1;simp only[List.length_nil];omega),thn_nx,zD (by simp only[List.length_cons,List.length_nil];omega),bnd_s]
    rfl) (by simp only[List.length_nil];omega),thn_nx,List.nil_append]
def iB (h:Gadgets) (s:Int×List Atom) (a:Atom):Int×List Atom:=
  if a.rel= -1 then (s.1,s.2++[a]) else
    let k:=h.formulas.getD a.rel.toNat default
    (s.1+(k.vars - k.free),s.2++mvA (fun i=>(a.args++sG s.1 (k.vars - k.free).toNat).getD i.toNat 0) k.atoms)
theorem xZy (l:List Atom):mvA (fun i=>i) l=l:=by
  unfold mvA
  simp
theorem xSc {V:Int} {m j:Nat} (h:j<m):(sG V m)[j]?=some (V+j):=by
  unfold sG
  rw[List.getElem?_map,List.getElem?_range h]
  rfl
theorem tD {u v:Template} {h:Gadgets} {T:Nat} (hG:GV T u v h) {n:Nat} (hu:TV T u) {ρ ρ':Type}:∀ (l:List Atom) (k:Nat) (V:Int) (L:List Atom),(∀ a∈l,AV u n a)→0≤V→V+8*l.length≤1000→L.length+16*l.length≤900→(∀ b∈L,b.args.length≤4) →
    oM (σ:=Int×(List Atom)) (ρ:=ρ) (fun(k456:Nat) (x458:Atom) (s:Int×(List Atom))=>
    match s with
    | (s446,s448)=>
    if (x458.rel==(-1)) then
     xK (qE x458.args) fun z484=>
     xK (ap s448 ([(Atom.mk x458.rel z484)])) fun z492=>
     some (.go (s446,z492))
    else
     xK (ix h.formulas x458.rel) fun z542=>
     xK (qE x458.args) fun z550=>
     vC (σ:=(List Int)×Int) (
      aY (σ:=(List Int)×Int) (ρ:=(Ctl (Int×(List Atom)) ρ)) (fun(k607:Nat) (s:(List Int)×Int)=>
        match s with
        | (s597,s600)=>
        xK (ap s597 ([s600])) fun z618=>
        xK (ck (s600+1)) fun z622=>
        some (.go (z618,z622))) (z542.vars - z542.free).toNat 0 (z550,s446)) fun(s602,s605)=>
     xK (aM z542.atoms s602) fun z631=>
     xK (ap s448 z631) fun z636=>
     some (.go (s605,z636))) l k (V,L)=some (.nx (l.foldl (iB h) (V,L))) ∧
    oM (σ:=Int×(List Atom)) (ρ:=ρ') (fun(k259:Nat) (x261:Atom) (s:Int×(List Atom))=>
    match s with
    | (s249,s251)=>
    if (x261.rel==(-1)) then
     xK (zP ([(Atom.mk x261.rel x261.args)]) (fun a0=>sC a0)) fun z276=>
     xK (ap s251 z276) fun z281=>
     some (.go (s249,z281))
    else
     xK (ix h.formulas x261.rel) fun z317=>
     xK (ck (s249 - z317.free)) fun z328=>
     xK (zP z317.atoms (fun a0=>dT a0 (Formula.mk z317.free z317.vars z317.atoms) (Atom.mk x261.rel x261.args) z328)) fun z331=>
     xK (ap s251 z331) fun z336=>
     xK (ck (z317.vars - z317.free)) fun z365=>
     xK (ck (s249+z365)) fun z367=>
     some (.go (z367,z336))) l k (V,L)=some (.nx (l.foldl (iB h) (V,L))) ∧
    (0≤(l.foldl (iB h) (V,L)).1∧(l.foldl (iB h) (V,L)).1≤1000∧∀ b∈(l.foldl (iB h) (V,L)).2,b.args.length≤4)
  | [],k,V,L,_,h0,h1,_,h2=>by
    simp only[List.length_nil] at h1;exact⟨rfl,rfl,h0,by simp only[List.foldl_nil];omega,h2⟩
  | a::l,k,V,L,hA,h0,h1,h2,h3=>by
    rw[List.length_cons] at h1 h2;have ha:=hA a (by simp);have hal:=ha.len hu
    have hown:qE a.args=some a.args:=by
      unfold qE
      rw[zD (by simp only[List.length_nil];omega),bnd_s,List.nil_append]
    rw[List.foldl_cons]
    by_cases e:a.rel= -1
    · have e':(a.rel == -1)=true:=by simpa using e
      have es:iB h (V,L) a=(V,L++[a]):=by unfold iB;rw[if_pos e]
      obtain⟨i1,i2,i3⟩:=tD (ρ:=ρ) (ρ':=ρ') hG hu l (k+1) V (L++[a]) (fun b hb=>hA b (by simp [hb])) h0 (by omega) (by rw[List.length_append,List.length_singleton];omega) (fun b hb=>by
        rcases List.mem_append.1 hb with hb | hb
        · exact h3 b hb
        · rw[List.mem_singleton] at hb;subst hb;exact hal.2)
      rw[es];refine⟨?_,?_,i3⟩
      · rw[qV (s':=(V,L++[a])) (by
          simp only[e',if_true,hown,bnd_s,zD (l:=L) (m:=[Atom.mk a.rel a.args]) (by simp only[List.length_cons,List.length_nil];omega)])]
        exact i1
      · have hr:zP [Atom.mk a.rel a.args] (fun a0=>sC a0)=some [a]:=by
          rw[xGa (fun i=>i) (by simp) (fun b hb=>by
            rw[List.mem_singleton] at hb;subst hb
            exact⟨by simp only;omega,fun i _=>rfl⟩),xZy]
        rw[qV (s':=(V,L++[a])) (by
          simp only[e',if_true,hr,bnd_s,zD (l:=L) (m:=[a]) (by simp only[List.length_cons,List.length_nil];omega)])]
        exact i2
    · have e':(a.rel == -1)=false:=by simpa using e
      obtain⟨r,hr0,hr1,hr2,hr3⟩:∃ r:Rel,0≤a.rel∧u.rels[a.rel.toNat]?=some r∧r∈u.rels∧(a.args.length:Int)=r.arity:=ha.2.resolve_left (fun h=>e h.1)
      have hlt:a.rel.toNat<h.formulas.length:=by rw[hG.n];exact(List.getElem?_eq_some_iff.1 hr1).1
      obtain⟨k0,hk0⟩:∃ k0,h.formulas[a.rel.toNat]?=some k0:=⟨_,List.getElem?_eq_getElem hlt⟩
      have hgd:h.formulas.getD a.rel.toNat default=k0:=by rw[List.getD_eq_getElem?_getD,hk0];rfl
      obtain⟨f1,f2,_⟩:=hG.f _ _ hk0
      have hfree:k0.free=(a.args.length:Int):=by rw[f2,hr3,List.getD_eq_getElem?_getD,hr1];rfl
      have fv:=f1.v0;have ff:=f1.f0
      have hm:((k0.vars - k0.free).toNat:Int)=k0.vars - k0.free:=by omega
      have hTo:(a.args++sG V (k0.vars - k0.free).toNat).length=k0.vars.toNat:=by
        rw[List.length_append,sG,List.length_map,List.length_range];omega
      have hb4:∀ b∈k0.atoms,b.args.length≤4:=fun b hb=>((f1.a b hb).len hG.uV).2
      have es:iB h (V,L) a=(V+(k0.vars - k0.free),L++mvA (fun i=>(a.args++sG V (k0.vars - k0.free).toNat).getD i.toNat 0) k0.atoms):=by
        unfold iB
        rw[if_neg e,hgd]
      have hml:(mvA (fun i=>(a.args++sG V (k0.vars - k0.free).toNat).getD i.toNat 0) k0.atoms).length≤16:=by unfold mvA;rw[List.length_map];exact f1.n
      obtain⟨i1,i2,i3⟩:=tD (ρ:=ρ) (ρ':=ρ') hG hu l (k+1) (V+(k0.vars - k0.free)) (L++mvA (fun i=>(a.args++sG V (k0.vars - k0.free).toNat).getD i.toNat 0) k0.atoms) (fun b hb=>hA b (by simp [hb])) (by omega) (by omega) (by rw[List.length_append];omega) (fun b hb=>by
        rcases List.mem_append.1 hb with hb | hb
        · exact h3 b hb
        · obtain⟨c,hc,rfl⟩:=List.mem_map.1 hb
          simp only[List.length_map]
          exact hb4 c hc)
      rw[es];refine⟨?_,?_,i3⟩
      · rw[qV (s':=(V+(k0.vars - k0.free),L++mvA (fun i=>(a.args++sG V (k0.vars - k0.free).toNat).getD i.toNat 0) k0.atoms)) (by
          simp only[e',Bool.false_eq_true,if_false,gQ hr0 hk0,bnd_s,hown];rw[xPi (k0.vars - k0.free).toNat 0 a.args V h0 (by omega) (by omega),thn_nx];simp only
          rw[xRi (by have:=f1.n;omega) (fun b hb=>⟨by have:=hb4 b hb;omega,fun i hi=>by rw[hTo];exact(f1.a b hb).1 i hi⟩),bnd_s,zD (by omega),bnd_s,hm])]
        exact i1
      · have hren:zP k0.atoms (fun a0=>dT a0 (Formula.mk k0.free k0.vars k0.atoms) (Atom.mk a.rel a.args) (V - k0.free))=some (mvA (fun i=>(a.args++sG V (k0.vars - k0.free).toNat).getD i.toNat 0) k0.atoms):=by
          refine xGa _ (by have:=f1.n;omega) (fun b hb=>⟨by have:=hb4 b hb;omega,fun i hi=>?_⟩);obtain⟨q0,q1⟩:=(f1.a b hb).1 i hi
          unfold dT
          by_cases hi2:i<k0.free
          · have hx:a.args[i.toNat]?=some ((a.args++sG V (k0.vars - k0.free).toNat).getD i.toNat 0):=by
              rw[List.getD_eq_getElem?_getD,List.getElem?_append_left (by omega),List.getElem?_eq_getElem (by omega)]
              rfl
            simp only[hi2,decide_true,if_true];rw[gQ q0 hx,bnd_s]
          · simp only[hi2,decide_false,Bool.false_eq_true,if_false]
            rw[kW (by omega) (by omega),bnd_s,List.getD_eq_getElem?_getD,List.getElem?_append_right (by omega),xSc (by omega)];simp only[Option.getD_some]
            congr 1
            omega
        rw[qV (s':=(V+(k0.vars - k0.free),L++mvA (fun i=>(a.args++sG V (k0.vars - k0.free).toNat).getD i.toNat 0) k0.atoms)) (by
          simp only[e',Bool.false_eq_true,if_false,gQ hr0 hk0,bnd_s,kW (x:=V - k0.free) (by omega) (by omega),hren]
          rw[zD (by omega),bnd_s,kW (by omega) (by omega),bnd_s,kW (by omega) (by omega),bnd_s])]
        exact i2
end Go.Proofs.YtlommebgedmjdaaGreatDoor
namespace Go.Proofs.YtlommebgedmjdaaGreatDoor
set_option linter.unusedVariables false
set_option linter.unusedSimpArgs false
def xKn (f:Formula):Formula×Int:=if decide (8<f.vars) || decide (16<(f.atoms.length:Int)) then (⟨0,0,[]⟩,3) else (f,0)
theorem xFg (f:Formula):iJ f=some (xKn f):=by
  unfold iJ xKn
  by_cases h1:8<f.vars
  · simp [h1]
  · by_cases h2:16<(f.atoms.length:Int)
    · simp [h1,h2]
    · simp [h1,h2]
theorem xXb (f:Formula):pD f=some (xKn f):=xFg f
def rG (h:Gadgets) (f:Formula):Formula×Int:=xKn ⟨f.free,(f.atoms.foldl (iB h) (f.vars,[])).1,(f.atoms.foldl (iB h) (f.vars,[])).2⟩
theorem xUd {T:Nat} {u v:Template} {h:Gadgets} {f:Formula} (hG:GV T u v h) (hu:TV T u) (hf:FV u f) :
    gC f h=some ⟨f.free,(f.atoms.foldl (iB h) (f.vars,[])).1,(f.atoms.foldl (iB h) (f.vars,[])).2⟩∧eM f h=some (rG h f)∧∀ b∈(rG h f).1.atoms,b.args.length≤4:=by
  have hv:=hf.v0;have h0:=hf.f0;have hn:=hf.n;obtain⟨i1,i2,i3,i4,i5⟩:=tD (ρ:=Formula) (ρ':=Formula×Int) hG hu f.atoms 0 f.vars [] hf.a (by omega) (by omega) (by simp only[List.length_nil];omega) (by simp);refine⟨?_,?_,?_⟩
  · unfold gC
    rw[i1,thn_nx]
  · unfold eM
    rw[i2,thn_nx]
    show xK (iJ ⟨f.free,_,_⟩) _=_
    rw[xFg,bnd_s]
    rfl
  · unfold rG xKn
    split
    · simp
    · exact i5
def xLv (h:Gadgets):List Formula→List Formula→Gadgets×Int
  | [],acc=>(⟨acc⟩,0)
  | f::l,acc=>if (rG h f).2≠0 then (⟨[]⟩,(rG h f).2) else xLv h l (acc++[(rG h f).1])
theorem xBf {T:Nat} {u v:Template} {h:Gadgets} (hG:GV T u v h) (hu:TV T u):∀ (l:List Formula) (k:Nat) (s:List Formula),(∀ f∈l,FV u f)→s.length+l.length≤1000 →
    vC (oM (σ:=(List Formula)) (ρ:=Gadgets×Int) (fun(k126:Nat) (x128:Formula) (s120:(List Formula))=>
    xK (gC x128 (Gadgets.mk h.formulas)) fun z135=>
    xK (pD (Formula.mk z135.free z135.vars z135.atoms)) fun z142=>
    if (z142.2 != 0) then
     some (.ret ((Gadgets.mk ([])),z142.2))
    else
     xK (ap s120 ([(Formula.mk z142.1.free z142.1.vars z142.1.atoms)])) fun z159=>
     some (.go z159)) l k s) (fun s=>some (Gadgets.mk s,0))=some (xLv h l s) ∧
    vC (oM (σ:=(List Formula)) (ρ:=Gadgets×Int) (fun(k118:Nat) (x120:Formula) (s112:(List Formula))=>
    xK (eM (Formula.mk x120.free x120.vars x120.atoms) (Gadgets.mk h.formulas)) fun z133=>
    if (z133.2 != 0) then
     some (.ret ((Gadgets.mk ([])),z133.2))
    else
     xK (ap s112 ([(Formula.mk z133.1.free z133.1.vars z133.1.atoms)])) fun z147=>
     some (.go z147)) l k s) (fun s=>some (Gadgets.mk s,0))=some (xLv h l s)
  | [],_,s,_,_=>⟨rfl,rfl⟩
  | f::l,k,s,hf,hs=>by
    rw[List.length_cons] at hs;obtain⟨c1,c2,_⟩:=xUd hG hu (hf f (by simp));have c1':gC f (Gadgets.mk h.formulas)=some ⟨f.free,(f.atoms.foldl (iB h) (f.vars,[])).1,(f.atoms.foldl (iB h) (f.vars,[])).2⟩:=c1;have c2':eM (Formula.mk f.free f.vars f.atoms) (Gadgets.mk h.formulas)=some (rG h f):=c2;have ct:pD (Formula.mk f.free (f.atoms.foldl (iB h) (f.vars,[])).1 (f.atoms.foldl (iB h) (f.vars,[])).2)=some (rG h f):=xXb _
    unfold xLv
    by_cases e:(rG h f).2=0
    · have e':((rG h f).2 != 0)=false:=by simpa using e
      rw[if_neg (by simpa using e)];obtain⟨i1,i2⟩:=xBf hG hu l (k+1) (s++[(rG h f).1]) (fun g hg=>hf g (by simp [hg])) (by rw[List.length_append,List.length_singleton];omega);have hap:ap s [Formula.mk (rG h f).1.free (rG h f).1.vars (rG h f).1.atoms]=some (s++[(rG h f).1]):=zD (by simp only[List.length_cons,List.length_nil];omega)
      constructor
      · rw[qV (s':=s++[(rG h f).1]) (by
          simp only[c1',bnd_s,ct,e',Bool.false_eq_true,if_false,hap])]
        exact i1
      · rw[qV (s':=s++[(rG h f).1]) (by
          simp only[c2',bnd_s,e',Bool.false_eq_true,if_false,hap])]
        exact i2
    · have e':((rG h f).2 != 0)=true:=by simpa using e
      rw[if_pos (by simpa using e)]
      constructor
      · rw[iV (r:=(⟨[]⟩,(rG h f).2)) (by
          simp only[c1',bnd_s,ct,e',if_true])]
        rfl
      · rw[iV (r:=(⟨[]⟩,(rG h f).2)) (by
          simp only[c2',bnd_s,e',if_true])]
        rfl
def xFh (t u v:Template) (g h:Gadgets):Gadgets×Int:=if lR t u g && lR u v h then xLv h g.formulas [] else (⟨[]⟩,1)
theorem xPa {t u:Template} {g:Gadgets} (ht:aI t) (hu:aI u) (h:lR t u g=true):GV t.size.toNat t u g:=by
  unfold lR at h
  rw[Bool.and_eq_true] at h;exact tA ht hu h.1
theorem GV.size {T:Nat} {t u:Template} {g:Gadgets} (h:GV T t u g):u.size.toNat=T∧g.formulas.length≤6∧∀ f∈g.formulas,FV u f:=by
  refine⟨by have:=h.uV.s;omega,by rw[h.n];exact h.tV.n,fun f hf=>?_⟩;obtain⟨j,hj,rfl⟩:=List.getElem_of_mem hf;exact(h.f j _ (List.getElem?_eq_getElem hj)).1
theorem pM {N:Nat} {t u v:Template} {g h:Gadgets} (ht:aI t) (hu:aI u) (hv:aI v) (hN:1100≤N):nO N t u v g h=some (xFh t u v g h)∧zW N t u v g h=some (xFh t u v g h):=by
  have a1:dJ N (Template.mk t.size t.rels) (Template.mk u.size u.rels) (Gadgets.mk g.formulas)=some (lR t u g):=xAk ht hu hN;have a2:dJ N (Template.mk u.size u.rels) (Template.mk v.size v.rels) (Gadgets.mk h.formulas)=some (lR u v h):=xAk hu hv hN;have b1:qU N (Template.mk t.size t.rels) (Template.mk u.size u.rels) (Gadgets.mk g.formulas)=some (lR t u g):=(iM ht hu hN).2;have b2:qU N (Template.mk u.size u.rels) (Template.mk v.size v.rels) (Gadgets.mk h.formulas)=some (lR u v h):=(iM hu hv hN).2
  unfold nO zW xFh
  rw[a1,b1,a2,b2]
  by_cases h1:lR t u g=true
  · by_cases h2:lR u v h=true
    · have G1:=xPa ht hu h1
      have G2:=xPa hu hv h2;have hs:=G1.size
      have G2':GV t.size.toNat u v h:=by rw[← hs.1];exact G2
      obtain⟨c1,c2⟩:=xBf G2' G1.uV g.formulas 0 [] hs.2.2 (by have:=hs.2.1;simp only[List.length_nil];omega);simp only[h1,h2,bnd_s,Bool.not_true,Bool.false_eq_true,if_false,thn_nx,Bool.and_self,if_true];exact⟨c1,c2⟩
    · have h2':lR u v h=false:=by simpa using h2
      simp [h1,h2']
  · have h1':lR t u g=false:=by simpa using h1
    simp [h1']
end Go.Proofs.YtlommebgedmjdaaGreatDoor
namespace Go.Proofs.YtlommebgedmjdaaGreatDoor
set_option linter.unusedVariables false
set_option linter.unusedSimpArgs false
def vH (V:Int) (m:Nat):List Int:=(List.range m).map fun(i:Nat)=>V+i
theorem zG (V:Int) (m:Nat):(vH V m).length=m:=by simp [vH]
theorem xCd (V:Int) (m:Nat):vH V (m+1)=V::vH (V+1) m:=by
  unfold vH
  rw[List.range_succ_eq_map,List.map_cons,List.map_map];simp only[Int.natCast_zero,Int.add_zero,List.cons.injEq,true_and]
  apply List.map_congr_left
  intro i _;simp only[Function.comp]
  push_cast
  omega
theorem fB {V:Int} {m j:Nat} (h:j<m):(vH V m)[j]?=some (V+j):=by
  unfold vH
  rw[List.getElem?_map,List.getElem?_range h]
  rfl
theorem xKu (V:Int) (m n:Nat):vH V m++vH (V+m) n=vH V (m+n):=by
  apply List.ext_getElem?
  intro j
  by_cases h1:j<m
  · rw[List.getElem?_append_left (by rw[zG];exact h1),fB h1,fB (by omega)]
  · by_cases h2:j<m+n
    · rw[List.getElem?_append_right (by rw[zG];omega),zG,fB (by omega),fB h2]
      congr 1
      omega
    · rw[List.getElem?_eq_none (by rw[List.length_append,zG,zG];omega),List.getElem?_eq_none (by rw[zG];omega)]
theorem xHu {ρ:Type} (V:Int) (h0:0≤V):∀ (m k:Nat) (s:List Int),V+k+m≤1000000→s.length+m≤1000000 →
    aY (σ:=(List Int)) (ρ:=ρ) (fun(k36:Nat) (s30:(List Int))=>
   xK (ck (V+(k36:Int))) fun z42=>
   xK (ap s30 ([z42])) fun z46=>
   some (.go z46)) m k s=some (.nx (s++vH (V+k) m))
  | 0,k,s,_,_=>by simp [aY,vH]
  | m+1,k,s,h1,h2=>by
    have e:V+((k+1:Nat):Int)=V+k+1:=by omega
    rw[fL (s':=s++[V+k]) (by rw[kW (by omega) (by omega),bnd_s,zD (by simp only[List.length_cons,List.length_nil];omega),bnd_s]),xHu V h0 m (k+1) _ (by omega) (by rw[List.length_append,List.length_singleton];omega),xCd,e]
    simp
theorem xJt {V:Int} {m:Nat} (h0:0≤V) (h1:V+m≤1000000):gI V (m:Int)=some (vH V m):=by
  unfold gI
  have:=xHu (ρ:=List Int) V h0 m 0 [] (by omega) (by simp only[List.length_nil];omega);rw[Int.toNat_natCast,this,thn_nx,List.nil_append]
  simp
theorem xKe {m:Nat} (h1:m≤1000000):eL (m:Int)=some (vH 0 m):=by
  unfold eL
  have key:∀ (m k:Nat) (s:List Int),k+m≤1000000→s.length+m≤1000000→aY (σ:=(List Int)) (ρ:=(List Int)) (fun(k34:Nat) (s28:(List Int))=>
   xK (ap s28 ([(k34:Int)])) fun z42=>
   some (.go z42)) m k s=some (.nx (s++vH (k:Int) m)):=by
    intro m
    induction m with
    | zero=>intro k s _ _;simp [aY,vH]
    | succ m ih=>
      intro k s h2 h3
      have e:((k+1:Nat):Int)=(k:Int)+1:=by omega
      rw[fL (s':=s++[(k:Int)]) (by rw[zD (by simp only[List.length_cons,List.length_nil];omega),bnd_s]),ih (k+1) _ (by omega) (by rw[List.length_append,List.length_singleton];omega),xCd,e]
      simp
  rw[Int.toNat_natCast,key m 0 [] (by omega) (by simp only[List.length_nil];omega),thn_nx,List.nil_append]
  rfl
theorem xKj {ρ:Type}:∀ (m k:Nat) (tz:List Int) (V:Int),0≤V→V+m≤1000000→tz.length+m≤1000000 →
    aY (σ:=Int×(List Int)) (ρ:=ρ) (fun(k232:Nat) (s:Int×(List Int))=>
       match s with
       | (s222,s224)=>
       xK (ap s224 ([s222])) fun z243=>
       xK (ck (s222+1)) fun z247=>
       some (.go (z247,z243))) m k (V,tz)=some (.nx (V+m,tz++vH V m))
  | 0,k,tz,V,_,_,_=>by simp [aY,vH]
  | m+1,k,tz,V,h0,h1,h2=>by
    rw[fL (s':=(V+1,tz++[V])) (by
      simp only[zD (l:=tz) (m:=[V]) (by simp only[List.length_cons,List.length_nil];omega),bnd_s,kW (x:=V+1) (by omega) (by omega)]),xKj m (k+1) _ (V+1) (by omega) (by omega) (by rw[List.length_append,List.length_singleton];omega),xCd]
    have e:V+1+(m:Int)=V+((m+1:Nat):Int):=by omega
    rw[e,List.append_assoc,List.singleton_append]
def mvB (g:Int→Int) (l:List Atom):List Atom:=l.map fun b=>⟨b.rel,b.args.map g⟩
theorem xEm {ρ:Type} {b:Nat→Atom→List Atom→Option (Ctl (List Atom) ρ)} (g:Int→Int):∀ (l:List Atom) (k:Nat) (s:List Atom),(∀ (j:Nat) x s,x∈l→s.length≤1000→b j x s=some (.go (s++[⟨x.rel,x.args.map g⟩])))→s.length+l.length≤1000→oM b l k s=some (.nx (s++mvB g l))
  | [],_,s,_,_=>by simp [mvB,oM]
  | x::l,k,s,h,hs=>by
    rw[List.length_cons] at hs;rw[qV (h k x s (by simp) (by omega)),xEm g l (k+1) _ (fun j y s hy=>h j y s (by simp [hy])) (by rw[List.length_append,List.length_singleton];omega)]
    simp [mvB]
theorem xQh {l:List Atom} {tz:List Int} (hl:l.length≤100) (h:∀ b∈l,b.args.length≤100∧∀ i∈b.args,0≤i∧i<tz.length):aM l tz=some (mvB (fun i=>tz.getD i.toNat 0) l):=by
  unfold aM
  rw[xEm (fun i=>tz.getD i.toNat 0) l 0 [] (fun j x s hx hs=>by
    have h1:bV x.args tz=some (aL tz x.args):=lG (h x hx).2 (by have:=(h x hx).1;omega);rw[h1,bnd_s,zD (by simp only[List.length_cons,List.length_nil];omega),bnd_s]
    rfl) (by simp only[List.length_nil];omega),thn_nx,List.nil_append]
theorem xEk {ρ : Type} {f : Int → Option Int} (g : Int → Int) : ∀ (l : List Int) (k : Nat) (s : List Int), (∀ i ∈ l, f i = some (g i)) → s.length + l.length ≤ 1000 → oM (σ := (List Int)) (ρ := ρ) (fun (k213 : Nat) (x215 : Int) (s207 : (List Int)) =>
     xK (f x215) fun z222=>
     xK (ap s207 ([z222])) fun z226=>
     some (.go z226)) l k s=some (.nx (s++l.map g))
  | [],_,s,_,_=>by simp [oM]
  | x::l,k,s,h,hs=>by
    rw[List.length_cons] at hs;rw[qV (s':=s++[g x]) (by rw[h x (by simp),bnd_s,zD (by simp only[List.length_cons,List.length_nil];omega),bnd_s]),xEk g l (k+1) _ (fun i hi=>h i (by simp [hi])) (by rw[List.length_append,List.length_singleton];omega)]
    simp
theorem xMd {l:List Atom} {f:Int→Option Int} (g:Int→Int) (hl:l.length≤100) (h:∀ b∈l,b.args.length≤100∧∀ i∈b.args,f i=some (g i)):zP l f=some (mvB g l):=by
  unfold zP
  rw[xEm g l 0 [] (fun j x s hx hs=>by
    rw[xEk g x.args 0 [] (h x hx).2 (by have:=(h x hx).1;simp only[List.length_nil];omega),thn_nx,zD (by simp only[List.length_cons,List.length_nil];omega),bnd_s]
    rfl) (by simp only[List.length_nil];omega),thn_nx,List.nil_append]
def CV (t:Template) (n:Int) (c:Con):Prop:=(∀ i∈c.scope,0≤i∧i<n)∧∃ r:Rel,0≤c.rel∧t.rels[c.rel.toNat]?=some r∧r∈t.rels∧(c.scope.length:Int)=r.arity
def fJ (g:Gadgets) (s:Int×List Atom) (c:Con):Int×List Atom:=
  let k:=g.formulas.getD c.rel.toNat default
  (s.1+(k.vars - k.free),s.2++mvB (fun i=>(c.scope++vH s.1 (k.vars - k.free).toNat).getD i.toNat 0) k.atoms)
def AB (V:Int) (L:List Atom):Prop:=∀ b∈L,b.args.length≤4∧(b.rel= -1→b.args.length=2)∧∀ i∈b.args,0≤i∧i<V
theorem sT {T:Nat} {t u:Template} {g:Gadgets} (hG:GV T t u g) {n:Int} {ρ ρ':Type}:∀ (l:List Con) (k:Nat) (V:Int) (L:List Atom),(∀ c∈l,CV t n c)→n≤V→0≤V→V+8*l.length≤1000→L.length+16*l.length≤900→AB V L →
    oM (σ:=Int×(List Atom)) (ρ:=ρ) (fun(k151:Nat) (x153:Con) (s:Int×(List Atom))=>
    match s with
    | (s141,s143)=>
    xK (ix g.formulas x153.rel) fun z175=>
    xK (qE x153.scope) fun z189=>
    vC (σ:=Int×(List Int)) (
     aY (σ:=Int×(List Int)) (ρ:=(Ctl (Int×(List Atom)) ρ)) (fun(k232:Nat) (s:Int×(List Int))=>
       match s with
       | (s222,s224)=>
       xK (ap s224 ([s222])) fun z243=>
       xK (ck (s222+1)) fun z247=>
       some (.go (z247,z243))) (z175.vars - z175.free).toNat 0 (s141,z189)) fun(s227,s229)=>
    xK (aM z175.atoms s229) fun z256=>
    xK (ap s143 z256) fun z261=>
    some (.go (s227,z261))) l k (V,L)=some (.nx (l.foldl (fJ g) (V,L))) ∧
    oM (σ:=(List Int)×(List Atom)) (ρ:=ρ') (fun(k95:Nat) (x97:Con) (s:(List Int)×(List Atom))=>
    match s with
    | (s83,s86)=>
    xK (ix g.formulas x97.rel) fun z109=>
    xK (ck ((s83.length:Int) - z109.free)) fun z121=>
    xK (zP z109.atoms (fun a0=>fA a0 (Formula.mk z109.free z109.vars z109.atoms) (Con.mk x97.rel x97.scope) z121)) fun z124=>
    xK (ap s86 z124) fun z129=>
    xK (ck (z109.vars - z109.free)) fun z134=>
    xK (gI (s83.length:Int) z134) fun z136=>
    xK (ap s83 z136) fun z141=>
    some (.go (z141,z129))) l k (vH 0 V.toNat,L)=some (.nx (vH 0 (l.foldl (fJ g) (V,L)).1.toNat,(l.foldl (fJ g) (V,L)).2)) ∧
    (V≤(l.foldl (fJ g) (V,L)).1∧(l.foldl (fJ g) (V,L)).1≤1000∧AB (l.foldl (fJ g) (V,L)).1 (l.foldl (fJ g) (V,L)).2∧(l.foldl (fJ g) (V,L)).2.length≤900)
  | [],k,V,L,_,_,h0,h1,h2,h3=>by
    simp only[List.length_nil] at h1 h2;exact⟨rfl,rfl,Int.le_refl _,by simp only[List.foldl_nil];omega,h3,by simp only[List.foldl_nil];omega⟩
  | c::l,k,V,L,hA,hn,h0,h1,h2,h3=>by
    rw[List.length_cons] at h1 h2;obtain⟨ha,r,hr0,hr1,hr2,hr3⟩:=hA c (by simp);rw[List.foldl_cons]
    have hlt:c.rel.toNat<g.formulas.length:=by rw[hG.n];exact(List.getElem?_eq_some_iff.1 hr1).1
    obtain⟨k0,hk0⟩:∃ k0,g.formulas[c.rel.toNat]?=some k0:=⟨_,List.getElem?_eq_getElem hlt⟩
    have hgd:g.formulas.getD c.rel.toNat default=k0:=by rw[List.getD_eq_getElem?_getD,hk0];rfl
    obtain⟨f1,f2,_⟩:=hG.f _ _ hk0
    have hfree:k0.free=(c.scope.length:Int):=by rw[f2,hr3,List.getD_eq_getElem?_getD,hr1];rfl
    have fv:=f1.v0;have ff:=f1.f0
    have hown:qE c.scope=some c.scope:=by
      unfold qE
      rw[zD (by simp only[List.length_nil];omega),bnd_s,List.nil_append]
    have hm:((k0.vars - k0.free).toNat:Int)=k0.vars - k0.free:=by omega
    have hTo:(c.scope++vH V (k0.vars - k0.free).toNat).length=k0.vars.toNat:=by
      rw[List.length_append,zG];omega
    have hb4:∀ b∈k0.atoms,b.args.length≤4:=fun b hb=>((f1.a b hb).len hG.uV).2
    have es:fJ g (V,L) c=(V+(k0.vars - k0.free),L++mvB (fun i=>(c.scope++vH V (k0.vars - k0.free).toNat).getD i.toNat 0) k0.atoms):=by
      unfold fJ
      rw[hgd]
    have hget:∀ i:Int,0≤i→i<k0.vars→(c.scope++vH V (k0.vars - k0.free).toNat).getD i.toNat 0=if i<k0.free then c.scope.getD i.toNat 0 else V+(i - k0.free):=fun i q0 q1=>by
      rw[List.getD_eq_getElem?_getD]
      by_cases hi:i<k0.free
      · rw[if_pos hi,List.getElem?_append_left (by omega),List.getD_eq_getElem?_getD]
      · rw[if_neg hi,List.getElem?_append_right (by omega),fB (by omega),Option.getD_some]
        omega
    have hml:(mvB (fun i=>(c.scope++vH V (k0.vars - k0.free).toNat).getD i.toNat 0) k0.atoms).length≤16:=by unfold mvB;rw[List.length_map];exact f1.n
    have hAB:AB (V+(k0.vars - k0.free)) (L++mvB (fun i=>(c.scope++vH V (k0.vars - k0.free).toNat).getD i.toNat 0) k0.atoms):=fun b hb=>by
      rcases List.mem_append.1 hb with hb | hb
      · obtain⟨q1,q2,q3⟩:=h3 b hb
        exact⟨q1,q2,fun i hi=>by have:=q3 i hi;omega⟩
      · obtain⟨d,hd,rfl⟩:=List.mem_map.1 hb
        have hv:=f1.a d hd;refine⟨by simp only[List.length_map];exact hb4 d hd,fun e=>?_,fun i hi=>?_⟩
        · simp only[List.length_map]
          rcases hv.2 with h | ⟨_,h,_⟩
          · exact h.2
          · simp only at e;omega
        · obtain⟨j,hj,rfl⟩:=List.mem_map.1 hi
          obtain⟨q0,q1⟩:=hv.1 j hj;rw[hget j q0 (by omega)]
          by_cases h4:j<k0.free
          · rw[if_pos h4,List.getD_eq_getElem?_getD,List.getElem?_eq_getElem (by omega),Option.getD_some]
            have:=ha _ (List.getElem_mem (show j.toNat<c.scope.length by omega))
            omega
          · rw[if_neg h4]
            omega
    obtain⟨i1,i2,i3,i4,i5,i6⟩:=sT (ρ:=ρ) (ρ':=ρ') hG l (k+1) (V+(k0.vars - k0.free)) (L++mvB (fun i=>(c.scope++vH V (k0.vars - k0.free).toNat).getD i.toNat 0) k0.atoms) (fun b hb=>hA b (by simp [hb])) (by omega) (by omega) (by omega) (by rw[List.length_append];omega) hAB;rw[es];refine⟨?_,?_,by omega,i4,i5,i6⟩
    · rw[qV (s':=(V+(k0.vars - k0.free),L++mvB (fun i=>(c.scope++vH V (k0.vars - k0.free).toNat).getD i.toNat 0) k0.atoms)) (by
        simp only[gQ hr0 hk0,bnd_s,hown];rw[xKj (k0.vars - k0.free).toNat 0 c.scope V h0 (by omega) (by omega),thn_nx];simp only
        rw[xQh (by have:=f1.n;omega) (fun b hb=>⟨by have:=hb4 b hb;omega,fun i hi=>by rw[hTo];exact(f1.a b hb).1 i hi⟩),bnd_s,zD (by omega),bnd_s,hm])]
      exact i1
    · have hVl:((vH 0 V.toNat).length:Int)=V:=by rw[zG];omega
      have hren:zP k0.atoms (fun a0=>fA a0 (Formula.mk k0.free k0.vars k0.atoms) (Con.mk c.rel c.scope) (V - k0.free))=some (mvB (fun i=>(c.scope++vH V (k0.vars - k0.free).toNat).getD i.toNat 0) k0.atoms):=by
        refine xMd _ (by have:=f1.n;omega) (fun b hb=>⟨by have:=hb4 b hb;omega,fun i hi=>?_⟩);obtain⟨q0,q1⟩:=(f1.a b hb).1 i hi;rw[hget i q0 (by omega)]
        unfold fA
        by_cases hi2:i<k0.free
        · have hx:c.scope[i.toNat]?=some (c.scope.getD i.toNat 0):=by
            rw[List.getD_eq_getElem?_getD,List.getElem?_eq_getElem (by omega)]
            rfl
          simp only[hi2,decide_true,if_true];rw[gQ q0 hx,bnd_s]
        · simp only[hi2,decide_false,Bool.false_eq_true,if_false]
          rw[kW (by omega) (by omega),bnd_s]
          congr 1
          omega
      have hup:gI V (k0.vars - k0.free)=some (vH V (k0.vars - k0.free).toNat):=by
        have:=xJt (V:=V) (m:=(k0.vars - k0.free).toNat) h0 (by omega);rw[hm] at this;exact this
      have hap:ap (vH 0 V.toNat) (vH V (k0.vars - k0.free).toNat)=some (vH 0 (V+(k0.vars - k0.free)).toNat):=by
        rw[zD (by rw[zG,zG];omega)];have h5:=xKu 0 V.toNat (k0.vars - k0.free).toNat;rw[show(0:Int)+(V.toNat:Int)=V by omega] at h5;rw[h5,show V.toNat+(k0.vars - k0.free).toNat=(V+(k0.vars - k0.free)).toNat by omega]
      rw[qV (s':=(vH 0 (V+(k0.vars - k0.free)).toNat,L++mvB (fun i=>(c.scope++vH V (k0.vars - k0.free).toNat).getD i.toNat 0) k0.atoms)) (by
        simp only[gQ hr0 hk0,bnd_s,hVl,kW (x:=V - k0.free) (by omega) (by omega),hren]
        rw[zD (by omega),bnd_s,kW (by omega) (by omega),bnd_s,hup,bnd_s,hap,bnd_s])]
      exact i2
theorem xKr {F:Int→Int} {o:List Int} {k:Nat} (h:k<o.length):((o.take k).map F++o.drop k)[k]?=some o[k]∧((o.take k).map F++o.drop k).set k (F o[k])=(o.take (k+1)).map F++o.drop (k+1):=by
  have hl:((o.take k).map F).length=k:=by rw[List.length_map,List.length_take];omega
  constructor
  · rw[List.getElem?_append_right (by omega),hl,Nat.sub_self,List.drop_eq_getElem_cons h]
    rfl
  · rw[List.set_append_right _ _ (by omega),hl,Nat.sub_self,List.drop_eq_getElem_cons h,List.set_cons_zero,List.take_succ_eq_append_getElem h,List.map_append]
    simp
theorem oBz {ρ:Type} {F:Int→Int} {o:List Int} {b:Nat→List Int→Option (Ctl (List Int) ρ)} (hb:∀ (k:Nat) s x,s.length=o.length→s[k]?=some x→x∈o→b k s=some (.go (s.set k (F x)))):∀ (m k:Nat),k+m=o.length→aY b m k ((o.take k).map F++o.drop k)=some (.nx (o.map F))
  | 0,k,h=>by
    rw[List.take_of_length_le (by omega),List.drop_eq_nil_of_le (by omega),List.append_nil]
    rfl
  | m+1,k,h=>by
    have hk:k<o.length:=by omega
    obtain⟨h1,h2⟩:=xKr (F:=F) hk;rw[fL (hb k _ _ (by rw[List.length_append,List.length_map,List.length_take,List.length_drop];omega) h1 (List.getElem_mem hk)),h2];exact oBz hb m (k+1) (by omega)
theorem xZw {α ρ:Type} {F:Int→Int} {o:List Int} {b:Nat→α→List Int→Option (Ctl (List Int) ρ)} (hb:∀ (k:Nat) y s x,s.length=o.length→s[k]?=some x→x∈o→b k y s=some (.go (s.set k (F x)))):∀ (l:List α) (k:Nat),k+l.length=o.length→oM b l k ((o.take k).map F++o.drop k)=some (.nx (o.map F))
  | [],k,h=>by
    simp only[List.length_nil] at h;rw[List.take_of_length_le (by omega),List.drop_eq_nil_of_le (by omega),List.append_nil]
    rfl
  | y::l,k,h=>by
    rw[List.length_cons] at h
    have hk:k<o.length:=by omega
    obtain⟨h1,h2⟩:=xKr (F:=F) hk;rw[qV (hb k y _ _ (by rw[List.length_append,List.length_map,List.length_take,List.length_drop];omega) h1 (List.getElem_mem hk)),h2];exact xZw hb l (k+1) (by omega)
theorem xLy {s:List Int} {k:Nat} {x:Int} (h:s[k]?=some x):s.set k x=s:=by
  obtain⟨hk,rfl⟩:=List.getElem?_eq_some_iff.1 h;exact List.set_getElem_self hk
def hiI (a b:Int):Int:=if a<b then b else a
def loI (a b:Int):Int:=if b<a then b else a
theorem xYa (a b:Int):bT a b=some (hiI a b):=by
  unfold bT hiI
  by_cases h:b<a
  · have:¬ a<b:=by omega
    simp [h,this]
  · by_cases h2:a<b
    · simp [h,h2]
    · have:a=b:=by omega
      simp [h,h2,this]
theorem xZx (a b:Int):gX a b=some (loI a b):=by
  unfold gX loI
  by_cases h:a<b
  · have:¬ b<a:=by omega
    simp [h,this]
  · by_cases h2:b<a
    · simp [h,h2]
    · have:a=b:=by omega
      simp [h,h2,this]
def zN (s:List Int) (a:Atom):List Int:=if a.rel= -1 then
    let x:=s.getD (a.args.getD 0 0).toNat 0
    let y:=s.getD (a.args.getD 1 0).toNat 0
    s.map fun v=>if v=hiI x y then loI x y else v
  else s
theorem cF (s:List Int) (a:Atom):(zN s a).length=s.length:=by
  unfold zN
  split
  · simp
  · rfl
theorem xEo {V:Nat} {ρ ρ':Type}:∀ (l:List Atom) (k:Nat) (s:List Int),AB V l→s.length=V →
    oM (σ:=(List Int)) (ρ:=ρ) (fun(k495:Nat) (x497:Atom) (s489:(List Int))=>
   if (x497.rel != (-1)) then
    some (.go s489)
   else
    xK (ix x497.args 0) fun z514=>
    xK (ix s489 z514) fun z519=>
    xK (ix x497.args 1) fun z530=>
    xK (ix s489 z530) fun z535=>
    vC (σ:=(List Int)) (
     aY (σ:=(List Int)) (ρ:=(Ctl ((List Int)) ρ)) (fun(k583:Nat) (s577:(List Int))=>
      xK (ix s577 (k583:Int)) fun z589=>
      xK (bT z519 z535) fun z594=>
      if (z589==z594) then
       xK (gX z519 z535) fun z597=>
       some (.go (s577.set ((k583:Int)).toNat z597))
      else
       some (.go s577)) V 0 s489) fun s580=>
    some (.go s580)) l k s=some (.nx (l.foldl zN s)) ∧
    oM (σ:=(List Int)) (ρ:=ρ') (fun(k363:Nat) (x365:Atom) (s357:(List Int))=>
   if (x365.rel != (-1)) then
    some (.go s357)
   else
    xK (ix x365.args 0) fun z385=>
    xK (ix s357 z385) fun z390=>
    xK (ix x365.args 1) fun z395=>
    xK (ix s357 z395) fun z400=>
    vC (σ:=(List Int)) (
     oM (σ:=(List Int)) (ρ:=(Ctl ((List Int)) ρ')) (fun(k454:Nat) (x456:Int) (s446:(List Int))=>
      xK (ix s446 (k454:Int)) fun z460=>
      if (z460==(if z390<z400 then z400 else z390)) then
       some (.go (s446.set ((k454:Int)).toNat (if z400<z390 then z400 else z390)))
      else
       some (.go s446)) s357 0 s357) fun s450=>
    some (.go s450)) l k s=some (.nx (l.foldl zN s))∧(l.foldl zN s).length=V
  | [],k,s,_,hs=>⟨rfl,rfl,hs⟩
  | a::l,k,s,hA,hs=>by
    have ih:=xEo (ρ:=ρ) (ρ':=ρ') l (k+1) (zN s a) (fun b hb=>hA b (by simp [hb])) (by rw[cF];exact hs);obtain⟨h1,h2,h3⟩:=hA a (by simp);rw[List.foldl_cons]
    by_cases e:a.rel= -1
    · have e':(a.rel != (-1))=false:=by simpa using e
      have hl:=h2 e
      obtain⟨i,j,ha⟩:∃ i j,a.args=[i,j]:=by
        match h:a.args,hl with
        | [i,j],_=>exact⟨i,j,rfl⟩
      have hi:=h3 i (by rw[ha];simp);have hj:=h3 j (by rw[ha];simp)
      have hx:s[i.toNat]?=some (s.getD i.toNat 0):=by rw[List.getD_eq_getElem?_getD,List.getElem?_eq_getElem (by omega)];rfl
      have hy:s[j.toNat]?=some (s.getD j.toNat 0):=by rw[List.getD_eq_getElem?_getD,List.getElem?_eq_getElem (by omega)];rfl
      have es:zN s a=s.map fun v=>if v=hiI (s.getD i.toNat 0) (s.getD j.toNat 0) then loI (s.getD i.toNat 0) (s.getD j.toNat 0) else v:=by
        unfold zN
        rw[if_pos e,ha]
        rfl
      refine⟨?_,?_,ih.2.2⟩
      · rw[qV (s':=zN s a) (by
          simp only[e',Bool.false_eq_true,if_false,ha];rw[show ix [i,j] 0=some i from rfl,bnd_s,gQ hi.1 hx,bnd_s,show ix [i,j] 1=some j from rfl,bnd_s,gQ hj.1 hy,bnd_s]
          have hu:=oBz (ρ:=Ctl (List Int) ρ) (F:=fun v=>if v=hiI (s.getD i.toNat 0) (s.getD j.toNat 0) then loI (s.getD i.toNat 0) (s.getD j.toNat 0) else v) (o:=s) (b:=fun(k583:Nat) (s577:(List Int))=>
      xK (ix s577 (k583:Int)) fun z589=>
      xK (bT (s.getD i.toNat 0) (s.getD j.toNat 0)) fun z594=>
      if (z589==z594) then
       xK (gX (s.getD i.toNat 0) (s.getD j.toNat 0)) fun z597=>
       some (.go (s577.set ((k583:Int)).toNat z597))
      else
       some (.go s577)) (fun k s1 x _ hx1 _ => by
            rw[zO hx1,bnd_s,xYa,bnd_s,xZx,bnd_s,Int.toNat_natCast]
            by_cases hv:x=hiI (s.getD i.toNat 0) (s.getD j.toNat 0)
            · have hv':(x==hiI (s.getD i.toNat 0) (s.getD j.toNat 0))=true:=by simpa using hv
              rw[hv',if_pos rfl,if_pos hv]
            · have hv':(x==hiI (s.getD i.toNat 0) (s.getD j.toNat 0))=false:=by simpa using hv
              rw[hv',if_neg (by simp),if_neg hv,xLy hx1]) V 0 (by omega)
          rw[List.take_zero,List.map_nil,List.nil_append,List.drop_zero] at hu
          rw[hu,thn_nx,es])]
        exact ih.1
      · rw[qV (s':=zN s a) (by
          simp only[e',Bool.false_eq_true,if_false,ha];rw[show ix [i,j] 0=some i from rfl,bnd_s,gQ hi.1 hx,bnd_s,show ix [i,j] 1=some j from rfl,bnd_s,gQ hj.1 hy,bnd_s]
          have hu:=xZw (ρ:=Ctl (List Int) ρ') (F:=fun v=>if v=hiI (s.getD i.toNat 0) (s.getD j.toNat 0) then loI (s.getD i.toNat 0) (s.getD j.toNat 0) else v) (o:=s) (b:=fun(k454:Nat) (x456:Int) (s446:(List Int))=>
      xK (ix s446 (k454:Int)) fun z460=>
      if (z460==(if (s.getD i.toNat 0)<(s.getD j.toNat 0) then (s.getD j.toNat 0) else (s.getD i.toNat 0))) then
       some (.go (s446.set ((k454:Int)).toNat (if (s.getD j.toNat 0)<(s.getD i.toNat 0) then (s.getD j.toNat 0) else (s.getD i.toNat 0))))
      else
       some (.go s446)) (fun k y s1 x _ hx1 _ => by
            rw[zO hx1,bnd_s,Int.toNat_natCast]
            by_cases hv:x=hiI (s.getD i.toNat 0) (s.getD j.toNat 0)
            · have hv':(x==hiI (s.getD i.toNat 0) (s.getD j.toNat 0))=true:=by simpa using hv
              unfold hiI at hv'
              rw[hv',if_pos rfl,if_pos hv]
              rfl
            · have hv':(x==hiI (s.getD i.toNat 0) (s.getD j.toNat 0))=false:=by simpa using hv
              unfold hiI at hv'
              rw[hv',if_neg (by simp),if_neg hv,xLy hx1]) s 0 (by omega)
          rw[List.take_zero,List.map_nil,List.nil_append,List.drop_zero] at hu
          rw[hu,thn_nx,es])]
        exact ih.2.1
    · have e':(a.rel != (-1))=true:=by simpa using e
      have es:zN s a=s:=by unfold zN;rw[if_neg e]
      rw[es] at ih ⊢;refine⟨?_,?_,ih.2.2⟩
      · rw[qV (s':=s) (by rw[e',if_pos rfl])]
        exact ih.1
      · rw[qV (s':=s) (by rw[e',if_pos rfl])]
        exact ih.2.1
section
open Go.Lib
theorem xRr:∀ {l m:List Int},l.Pairwise (· < ·)→m.Pairwise (· < ·)→(∀ x,x∈l↔x∈m)→l=m
  | [],[],_,_,_=>rfl
  | [],b::m,_,_,h=>absurd ((h b).2 (by simp)) (by simp)
  | a::l,[],_,_,h=>absurd ((h a).1 (by simp)) (by simp)
  | a::l,b::m,hl,hm,h=>by
    have hab:a=b:=by
      rcases List.mem_cons.1 ((h a).1 (by simp)) with e | h1
      · exact e
      · rcases List.mem_cons.1 ((h b).2 (by simp)) with e | h2
        · exact e.symm
        · have:=List.rel_of_pairwise_cons hm h1
          have:=List.rel_of_pairwise_cons hl h2
          omega
    subst hab
    congr 1
    refine xRr (List.Pairwise.of_cons hl) (List.Pairwise.of_cons hm) (fun x=>⟨fun hx=>?_,fun hx=>?_⟩)
    · rcases List.mem_cons.1 ((h x).1 (by simp [hx])) with rfl | h1
      · have:=List.rel_of_pairwise_cons hl hx;omega
      · exact h1
    · rcases List.mem_cons.1 ((h x).2 (by simp [hx])) with rfl | h1
      · have:=List.rel_of_pairwise_cons hm hx;omega
      · exact h1
theorem pC {s:List Int} {j:Nat} (h:j<s.length):s.toArray[j]! = s[j]:=by
  rw[getElem!_pos s.toArray j (by simpa using h)]
  simp
theorem xNj {s:List Int} (hs:s.Pairwise (· ≤ ·)):(compactUpTo s.toArray s.length).Pairwise (· < ·):=by
  unfold compactUpTo
  rw[List.pairwise_map];refine List.Pairwise.imp_of_mem ?_ ((List.pairwise_lt_range (n:=s.length)).filter (keeps s.toArray));intro i j hi hj hij;have h1:=List.mem_filter.1 hi;have h2:=List.mem_filter.1 hj;have hjl:=List.mem_range.1 h2.1;have hk:=h2.2
  unfold keeps at hk
  have hk:=of_decide_eq_true hk;rw[pC (by omega),pC hjl];rw[pC hjl,pC (by omega)] at hk;have hne:s[j]≠s[j - 1]:=hk.resolve_left (by omega);have hle:=List.pairwise_iff_getElem.1 hs;have a1:s[j - 1]≤s[j]:=hle (j - 1) j (by omega) hjl (by omega)
  have a2:s[i]≤s[j - 1]:=by
    by_cases e:i=j - 1
    · subst e;exact Int.le_refl _
    · exact hle i (j - 1) (by omega) (by omega) (by omega)
  omega
theorem xKt {s:List Int} {x:Int}:x∈compactUpTo s.toArray s.length↔x∈s:=by
  unfold compactUpTo
  constructor
  · intro h
    obtain⟨j,hj,rfl⟩:=List.mem_map.1 h;have hjl:=List.mem_range.1 (List.mem_filter.1 hj).1;rw[pC hjl];exact List.getElem_mem hjl
  · intro h
    obtain⟨i,hi,e⟩:=List.getElem_of_mem h
    have key:∀ (n i:Nat) (hi:i<s.length),i≤n→s[i]=x→x∈((List.range s.length).filter (keeps s.toArray)).map (s.toArray[·]!):=by
      intro n
      induction n with
      | zero=>
        intro i hi h0 e
        obtain rfl:i=0:=by omega
        exact List.mem_map.2 ⟨0,List.mem_filter.2 ⟨List.mem_range.2 hi,by simp [keeps]⟩,by rw[pC hi];exact e⟩
      | succ n ih=>
        intro i hi h0 e
        by_cases hk:keeps s.toArray i=true
        · exact List.mem_map.2 ⟨i,List.mem_filter.2 ⟨List.mem_range.2 hi,hk⟩,by rw[pC hi];exact e⟩
        · unfold keeps at hk
          simp only[decide_eq_true_eq,not_or,ne_eq,Decidable.not_not] at hk;rw[pC hi,pC (by omega)] at hk;exact ih (i - 1) (by omega) (by omega) (by rw[← hk.2];exact e)
    exact key i i hi (Nat.le_refl _) e
theorem xRb {l F:List Int} (h0:0<l.length) (h1:l.length≤100000) (hF:F.Pairwise (· < ·)) (hm:∀ x,x∈F↔x∈l):mZ l=some F:=by
  have hlen:(l.mergeSort fun x y=>decide (x≤y)).length=l.length:=List.length_mergeSort _;have hperm:(l.mergeSort fun x y=>decide (x≤y)).Perm l:=List.mergeSort_perm _ _
  have hsort:(l.mergeSort fun x y=>decide (x≤y)).Pairwise (· ≤ ·):=
    (List.pairwise_mergeSort (le:=fun x y:Int=>decide (x≤y)) (fun a b c h1 h2=>by simp at *;omega) (fun a b=>by simp;omega) l).imp (fun h=>by simpa using h)
  unfold mZ oD
  rw[zD (by simp only[List.length_nil];omega),bnd_s,bnd_s,List.nil_append]
  unfold zM
  rw[if_pos (by omega),bnd_s]
  unfold vP
  rw[if_pos (by rw[hlen];omega),bnd_s]
  congr 1
  exact xRr (xNj hsort) hF (fun x=>by rw[xKt,hm,hperm.mem_iff])
end
def Rep (S:List Int):Prop:=∀ (v:Nat) x,S[v]?=some x→0≤x∧x≤v∧S[x.toNat]?=some x
theorem uJ (V:Nat):Rep (vH 0 V):=fun v x h=>by
  have hv:v<V:=by have:=(List.getElem?_eq_some_iff.1 h).1;rwa [zG] at this
  rw[fB hv] at h;obtain rfl:=Option.some.inj h;refine⟨by omega,by omega,?_⟩;rw[show((0:Int)+(v:Int)).toNat=v by omega,fB hv]
theorem xRc {V:Nat} {S:List Int} {a:Atom} (h:Rep S) (hl:S.length=V) (ha:a.args.length≤4∧(a.rel= -1→a.args.length=2)∧∀ i∈a.args,0≤i∧i<(V:Int)):Rep (zN S a):=by
  unfold zN
  by_cases e:a.rel= -1
  · rw[if_pos e]
    have hl2:=ha.2.1 e
    obtain⟨i,j,hij⟩:∃ i j,a.args=[i,j]:=by
      match h:a.args,hl2 with
      | [i,j],_=>exact⟨i,j,rfl⟩
    have hi:=ha.2.2 i (by rw[hij];simp);have hj:=ha.2.2 j (by rw[hij];simp);rw[hij];simp only[List.getD_cons_zero,List.getD_cons_succ]
    have hx:S[i.toNat]?=some (S.getD i.toNat 0):=by rw[List.getD_eq_getElem?_getD,List.getElem?_eq_getElem (by omega)];rfl
    have hy:S[j.toNat]?=some (S.getD j.toNat 0):=by rw[List.getD_eq_getElem?_getD,List.getElem?_eq_getElem (by omega)];rfl
    obtain⟨x0,_,x2⟩:=h _ _ hx;obtain⟨y0,_,y2⟩:=h _ _ hy;generalize S.getD i.toNat 0=x at *;generalize S.getD j.toNat 0=y at *
    have hlo:0≤loI x y∧loI x y≤hiI x y∧S[(loI x y).toNat]?=some (loI x y):=by
      unfold loI hiI
      by_cases h1:y<x
      · rw[if_pos h1,if_neg (by omega)];exact⟨y0,by omega,y2⟩
      · rw[if_neg h1]
        by_cases h2:x<y
        · rw[if_pos h2];exact⟨x0,by omega,x2⟩
        · rw[if_neg h2];exact⟨x0,by omega,x2⟩
    intro v z hv;rw[List.getElem?_map,Option.map_eq_some_iff] at hv;obtain⟨s,hs,rfl⟩:=hv;obtain⟨s0,s1,s2⟩:=h v s hs
    by_cases hsh:s=hiI x y
    · rw[if_pos hsh]
      refine⟨hlo.1,by omega,?_⟩;rw[List.getElem?_map,hlo.2.2,Option.map_some]
      by_cases h3:loI x y=hiI x y
      · rw[if_pos h3]
      · rw[if_neg h3]
    · rw[if_neg hsh]
      refine⟨s0,s1,?_⟩;rw[List.getElem?_map,s2,Option.map_some,if_neg hsh]
  · rw[if_neg e]
    exact h
theorem sH {V:Nat}:∀ (l:List Atom) (S:List Int),Rep S→S.length=V→AB V l→Rep (l.foldl zN S)
  | [],_,h,_,_=>h
  | a::l,S,h,hl,hA=>sH l (zN S a) (xRc h hl (hA a (by simp))) (by rw[cF];exact hl) (fun b hb=>hA b (by simp [hb]))
def cZ (S:List Int) (v:Nat):Bool:=S.getD v (-1)==(v:Int)
def vX (S:List Int) (k:Nat):Nat:=((List.range k).filter (cZ S)).length
def wO (S:List Int):List Int:=((List.range S.length).filter (cZ S)).map fun(v:Nat)=>(v:Int)
theorem gG (S:List Int) (k:Nat):vX S (k+1)=vX S k+if cZ S k then 1 else 0:=by
  unfold vX
  rw[List.range_succ,List.filter_append,List.length_append]
  by_cases h:cZ S k=true<;>simp [h]
theorem xVj (S:List Int):(wO S).Pairwise (· < ·):=by
  unfold wO
  rw[List.pairwise_map];exact((List.pairwise_lt_range (n:=S.length)).filter _).imp (fun h=>by omega)
theorem xTp {S:List Int} (h:Rep S) {x:Int}:x∈wO S↔x∈S:=by
  unfold wO
  constructor
  · intro hx
    obtain⟨v,hv,rfl⟩:=List.mem_map.1 hx;obtain⟨h1,h2⟩:=List.mem_filter.1 hv;have hl:=List.mem_range.1 h1
    unfold cZ at h2
    rw[List.getD_eq_getElem?_getD,List.getElem?_eq_getElem hl,Option.getD_some] at h2
    have:S[v]=(v:Int):=by simpa using h2
    rw[← this];exact List.getElem_mem hl
  · intro hx
    obtain⟨v,hv,rfl⟩:=List.getElem_of_mem hx;obtain⟨a0,a1,a2⟩:=h v _ (List.getElem?_eq_getElem hv);refine List.mem_map.2 ⟨S[v].toNat,List.mem_filter.2 ⟨List.mem_range.2 (by omega),?_⟩,by omega⟩
    unfold cZ
    rw[List.getD_eq_getElem?_getD,a2,Option.getD_some]
    simp
    omega
theorem xGs {x:Int} {B:List Int}:∀ (A:List Int) (k:Nat),(∀ a∈A,a≠x)→oM (σ:=Unit) (ρ:=Int) (fun(k22:Nat) (x24:Int) (s:Unit)=>
    match s with
    | _=>
    if (x==x24) then
     some (.ret ((k22:Int)))
    else
     some (.go ())) (A++x::B) k ()=some (.ret ((k+A.length:Nat):Int))
  | [],k,_=>by
    rw[List.nil_append,iV (r:=(k:Int)) (by simp)]
    rfl
  | a::A,k,h=>by
    have hne:(x==a)=false:=by rw[beq_eq_false_iff_ne];exact fun e=>h a (by simp) e.symm
    rw[List.cons_append,qV (s':=()) (by simp [hne]),xGs A (k+1) (fun b hb=>h b (by simp [hb]))]
    congr 3
    rw[List.length_cons]
    omega
theorem xUb {S:List Int} (h:Rep S) {x:Int} (hx:x∈S):vG (wO S) x=some (vX S x.toNat:Int):=by
  obtain⟨v,hv,rfl⟩:=List.getElem_of_mem hx;obtain⟨a0,a1,a2⟩:=h v _ (List.getElem?_eq_getElem hv)
  have hlt:S[v].toNat<S.length:=by omega
  have hfx:cZ S S[v].toNat=true:=by
    unfold cZ
    rw[List.getD_eq_getElem?_getD,a2,Option.getD_some]
    simp
    omega
  generalize S[v]=x at *
  have hr:List.range S.length=List.range x.toNat++x.toNat::(List.range' (x.toNat+1) (S.length - x.toNat - 1)):=by
    have h9:List.range' 0 x.toNat++List.range' (0+x.toNat) (S.length - x.toNat - 1+1)=List.range' 0 (x.toNat+(S.length - x.toNat - 1+1)):=List.range'_append_1;rw[Nat.zero_add] at h9;rw[List.range_eq_range',List.range_eq_range',← List.range'_succ,h9]
    congr 1
    omega
  have hs:wO S=((List.range x.toNat).filter (cZ S)).map (fun(v:Nat)=>(v:Int))++x::((List.range' (x.toNat+1) (S.length - x.toNat - 1)).filter (cZ S)).map (fun(v:Nat)=>(v:Int)):=by
    unfold wO
    rw[hr,List.filter_append,List.filter_cons,if_pos hfx,List.map_append,List.map_cons,Int.toNat_of_nonneg a0]
  unfold vG
  rw[hs,xGs _ 0 (fun a ha=>by
    obtain⟨w,hw,rfl⟩:=List.mem_map.1 ha;have:=List.mem_range.1 (List.mem_filter.1 hw).1
    omega),thn_ret,List.length_map,Nat.zero_add]
  rfl
theorem xIv (S:List Int) (k:Nat):vX S k≤k:=by
  unfold vX
  have:=List.length_filter_le (cZ S) (List.range k);rw[List.length_range] at this;exact this
def tW (S:List Int) (k:Nat):List Int:=(List.range S.length).map fun v=>if v<k∧cZ S v=true then (vX S v:Int) else 0
def yR (S:List Int) (k:Nat):List Int:=(List.range S.length).map fun v=>if v<k then (vX S (S.getD v 0).toNat:Int) else if cZ S v=true then (vX S v:Int) else 0
theorem xBz {ρ:Type} {S:List Int} (h:Rep S) (hV:S.length≤1000):∀ (m k:Nat),k+m=S.length →
    aY (σ:=(List Int)×Int) (ρ:=ρ) (fun(k658:Nat) (s:(List Int)×Int)=>
    match s with
    | (s648,s651)=>
    xK (ix S (k658:Int)) fun z664=>
    if (z664==(k658:Int)) then
     xK (ix s648 (k658:Int)) fun z670=>
     xK (ck (s651+1)) fun z676=>
     some (.go ((s648.set ((k658:Int)).toNat s651),z676))
    else
     some (.go (s648,s651))) m k (tW S k,(vX S k:Int))=some (.nx (tW S S.length,(vX S S.length:Int)))
  | 0,k,hk=>by
    obtain rfl:k=S.length:=by omega
    rfl
  | m+1,k,hk=>by
    have hlt:k<S.length:=by omega
    have hx:S[k]?=some S[k]:=List.getElem?_eq_getElem hlt;have hc:=xIv S k
    have hfx:cZ S k=(S[k]==(k:Int)):=by unfold cZ;rw[List.getD_eq_getElem?_getD,hx];rfl
    by_cases e:(S[k]==(k:Int))=true
    · have hn:(tW S k)[k]?=some 0:=by
        unfold tW
        rw[List.getElem?_map,List.getElem?_range hlt,Option.map_some,if_neg (by omega)]
      have hset:(tW S k).set k (vX S k:Int)=tW S (k+1):=by
        apply List.ext_getElem?
        intro j
        by_cases hj:j<S.length
        · rw[List.getElem?_set]
          unfold tW
          rw[List.length_map,List.length_range,List.getElem?_map,List.getElem?_map,List.getElem?_range hj,Option.map_some,Option.map_some]
          by_cases hkj:k=j
          · subst hkj
            rw[if_pos rfl,if_pos hlt,if_pos ⟨by omega,by rw[hfx];exact e⟩]
          · rw[if_neg hkj]
            by_cases h2:j<k
            · by_cases h3:cZ S j=true
              · rw[if_pos ⟨h2,h3⟩,if_pos ⟨by omega,h3⟩]
              · rw[if_neg (fun h=>h3 h.2),if_neg (fun h=>h3 h.2)]
            · rw[if_neg (fun h=>h2 h.1),if_neg (fun h=>by omega)]
        · rw[List.getElem?_eq_none (by simp [tW];omega),List.getElem?_eq_none (by simp [tW];omega)]
      have hcs:(vX S k:Int)+1=(vX S (k+1):Int):=by rw[gG,hfx,e];simp
      rw[fL (s':=(tW S (k+1),(vX S (k+1):Int))) (by
        simp only[zO hx,bnd_s,e,if_true,zO hn,hcs,kW (x:=(vX S (k+1):Int)) (by have:=xIv S (k+1);omega) (by have:=xIv S (k+1);omega),Int.toNat_natCast,hset])]
      exact xBz h hV m (k+1) (by omega)
    · have e':(S[k]==(k:Int))=false:=by simpa using e
      have hs1:tW S (k+1)=tW S k:=by
        unfold tW
        apply List.map_congr_left
        intro j _
        by_cases hkj:j=k
        · subst hkj
          rw[if_neg (fun h=>by rw[hfx,e'] at h;exact absurd h.2 (by simp)),if_neg (fun h=>by omega)]
        · by_cases h3:cZ S j=true
          · by_cases h2:j<k
            · rw[if_pos ⟨by omega,h3⟩,if_pos ⟨h2,h3⟩]
            · rw[if_neg (fun h=>by omega),if_neg (fun h=>h2 h.1)]
          · rw[if_neg (fun h=>h3 h.2),if_neg (fun h=>h3 h.2)]
      have hcs:vX S (k+1)=vX S k:=by rw[gG,hfx,e'];simp
      rw[fL (s':=(tW S (k+1),(vX S (k+1):Int))) (by
        simp only[zO hx,bnd_s,e',Bool.false_eq_true,if_false,hs1,hcs])]
      exact xBz h hV m (k+1) (by omega)
theorem xIi {ρ:Type} {S:List Int} (h:Rep S):∀ (m k:Nat),k+m=S.length →
    aY (σ:=(List Int)) (ρ:=ρ) (fun(k725:Nat) (s719:(List Int))=>
   xK (ix S (k725:Int)) fun z731=>
   xK (ix s719 z731) fun z736=>
   xK (ix s719 (k725:Int)) fun z741=>
   some (.go (s719.set ((k725:Int)).toNat z736))) m k (yR S k)=some (.nx (yR S S.length))
  | 0,k,hk=>by
    obtain rfl:k=S.length:=by omega
    rfl
  | m+1,k,hk=>by
    have hlt:k<S.length:=by omega
    have hx:S[k]?=some S[k]:=List.getElem?_eq_getElem hlt;obtain⟨x0,x1,x2⟩:=h k _ hx
    have hg:S.getD k 0=S[k]:=by rw[List.getD_eq_getElem?_getD,hx];rfl
    have hat:∀ j,j<S.length→(yR S k)[j]?=some (if j<k then (vX S (S.getD j 0).toNat:Int) else if cZ S j=true then (vX S j:Int) else 0):=fun j hj=>by
      unfold yR
      rw[List.getElem?_map,List.getElem?_range hj]
      rfl
    have hv:(yR S k)[S[k].toNat]?=some (vX S S[k].toNat:Int):=by
      rw[hat _ (by omega)]
      congr 1
      by_cases h2:S[k].toNat<k
      · rw[if_pos h2,List.getD_eq_getElem?_getD,x2,Option.getD_some]
      · have e:S[k].toNat=k:=by omega
        have hfx:cZ S S[k].toNat=true:=by
          unfold cZ
          rw[List.getD_eq_getElem?_getD,x2,Option.getD_some]
          simp
          omega
        rw[if_neg h2,if_pos hfx]
    have hset:(yR S k).set k (vX S S[k].toNat:Int)=yR S (k+1):=by
      apply List.ext_getElem?
      intro j
      by_cases hj:j<S.length
      · rw[List.getElem?_set]
        unfold yR
        rw[List.length_map,List.length_range,List.getElem?_map,List.getElem?_map,List.getElem?_range hj,Option.map_some,Option.map_some]
        by_cases hkj:k=j
        · subst hkj
          rw[if_pos rfl,if_pos hlt,if_pos (by omega),hg]
        · rw[if_neg hkj]
          by_cases h2:j<k
          · rw[if_pos h2,if_pos (show j<k+1 by omega)]
          · rw[if_neg h2,if_neg (show ¬ j<k+1 by omega)]
      · rw[List.getElem?_eq_none (by simp [yR];omega),List.getElem?_eq_none (by simp [yR];omega)]
    rw[fL (s':=yR S (k+1)) (by
      rw[zO hx,bnd_s,gQ x0 hv,bnd_s,zO (hat k hlt),bnd_s,Int.toNat_natCast,hset])]
    exact xIi h m (k+1) (by omega)
def vV (S:List Int):List Int:=S.map fun x=>(vX S x.toNat:Int)
theorem xTj (S:List Int):yR S S.length=vV S:=by
  apply List.ext_getElem?
  intro j
  unfold yR vV
  by_cases hj:j<S.length
  · rw[List.getElem?_map,List.getElem?_range hj,Option.map_some,if_pos hj,List.getElem?_map,List.getElem?_eq_getElem hj,Option.map_some,List.getD_eq_getElem?_getD,List.getElem?_eq_getElem hj]
    rfl
  · rw[List.getElem?_eq_none (by simp;omega),List.getElem?_eq_none (by simp;omega)]
theorem oCt (S:List Int):tW S S.length=yR S 0:=by
  unfold tW yR
  apply List.map_congr_left
  intro j hj;have:=List.mem_range.1 hj;rw[if_neg (show ¬ j<0 by omega)]
  by_cases h:cZ S j=true
  · rw[if_pos ⟨this,h⟩,if_pos h]
  · rw[if_neg (fun h2=>h h2.2),if_neg h]
theorem xNx {ρ:Type} {S:List Int} (h:Rep S):oM (σ:=(List Int)) (ρ:=ρ) (fun(k514:Nat) (x516:Int) (s506:(List Int))=>
   xK (ix s506 (k514:Int)) fun z520=>
   xK (vG (wO S) z520) fun z525=>
   some (.go (s506.set ((k514:Int)).toNat z525))) S 0 S=some (.nx (vV S)):=by
  have hu:=xZw (ρ:=ρ) (F:=fun x=>(vX S x.toNat:Int)) (o:=S) (b:=fun(k514:Nat) (x516:Int) (s506:(List Int))=>
   xK (ix s506 (k514:Int)) fun z520=>
   xK (vG (wO S) z520) fun z525=>
   some (.go (s506.set ((k514:Int)).toNat z525))) (fun k y s x _ hx hm=>by
    rw[zO hx,bnd_s,xUb h hm,bnd_s,Int.toNat_natCast]) S 0 (by omega)
  rw[List.take_zero,List.map_nil,List.nil_append,List.drop_zero] at hu;exact hu
def gO (n:List Int) (l:List Atom):List Con:=(l.filter fun a=>decide (a.rel ≠ -1)).map fun a=>⟨a.rel,aL n a.args⟩
theorem xCq {V:Int} {n:List Int} (hn:(n.length:Int)=V) {ρ ρ':Type}:∀ (l:List Atom) (k:Nat) (s:List Con),AB V l→s.length+l.length≤2000 →
    oM (σ:=(List Con)) (ρ:=ρ) (fun(k925:Nat) (x927:Atom) (s919:(List Con))=>
   if (x927.rel != (-1)) then
    xK (bV x927.args n) fun z949=>
    xK (ap s919 ([(Con.mk x927.rel z949)])) fun z957=>
    some (.go z957)
   else
    some (.go s919)) l k s=some (.nx (s++gO n l)) ∧
    oM (σ:=(List Con)) (ρ:=ρ') (fun(k681:Nat) (x683:Atom) (s675:(List Con))=>
   if (x683.rel != (-1)) then
    xK (dY n x683.args) fun z703=>
    xK (ap s675 ([(Con.mk x683.rel z703)])) fun z711=>
    some (.go z711)
   else
    some (.go s675)) l k s=some (.nx (s++gO n l))
  | [],k,s,_,_=>by simp [oM,gO]
  | a::l,k,s,hA,hs=>by
    rw[List.length_cons] at hs;obtain⟨h1,_,h3⟩:=hA a (by simp);have hA':AB V l:=fun b hb=>hA b (by simp [hb])
    by_cases e:a.rel= -1
    · have e':(a.rel != (-1))=false:=by simpa using e
      have ec:gO n (a::l)=gO n l:=by unfold gO;rw[List.filter_cons,if_neg (by simpa using e)]
      obtain⟨i1,i2⟩:=xCq (ρ:=ρ) (ρ':=ρ') hn l (k+1) s hA' (by omega);rw[ec];exact⟨by rw[qV (s':=s) (by rw[e',if_neg (by simp)])];exact i1,by rw[qV (s':=s) (by rw[e',if_neg (by simp)])];exact i2⟩
    · have e':(a.rel != (-1))=true:=by simpa using e
      have ec:gO n (a::l)=⟨a.rel,aL n a.args⟩::gO n l:=by unfold gO;rw[List.filter_cons,if_pos (by simpa using e)];rfl
      have hr:∀ i∈a.args,0≤i∧i<(n.length:Int):=fun i hi=>by have:=h3 i hi;omega
      have c1:bV a.args n=some (aL n a.args):=lG hr (by omega);have c2:dY n a.args=some (aL n a.args):=lG hr (by omega);have hap:ap s [Con.mk a.rel (aL n a.args)]=some (s++[⟨a.rel,aL n a.args⟩]):=zD (by simp only[List.length_cons,List.length_nil];omega);obtain⟨i1,i2⟩:=xCq (ρ:=ρ) (ρ':=ρ') hn l (k+1) (s++[⟨a.rel,aL n a.args⟩]) hA' (by rw[List.length_append,List.length_singleton];omega);rw[ec];rw[List.append_assoc,List.singleton_append] at i1 i2;exact⟨by rw[qV (s':=s++[⟨a.rel,aL n a.args⟩]) (by rw[e',if_pos rfl,c1,bnd_s,hap,bnd_s])];exact i1,by rw[qV (s':=s++[⟨a.rel,aL n a.args⟩]) (by rw[e',if_pos rfl,c2,bnd_s,hap,bnd_s])];exact i2⟩
def kC (g:Gadgets) (x:Instance):Int×List Atom:=x.cons.foldl (fJ g) (x.vars,[])
def qO (g:Gadgets) (x:Instance):List Int:=(kC g x).2.foldl zN (vH 0 (kC g x).1.toNat)
def zZ (g:Gadgets) (x:Instance):Instance×List Int×Int:=
  if decide (10<(vX (qO g x) (qO g x).length:Int)) || decide (24<((gO (vV (qO g x)) (kC g x).2).length:Int)) then (⟨0,[]⟩,[],3)
  else (⟨(vX (qO g x) (qO g x).length:Int),gO (vV (qO g x)) (kC g x).2⟩,(vV (qO g x)).take x.vars.toNat,0)
theorem xMc (S:List Int):(wO S).length=vX S S.length:=by unfold wO vX;rw[List.length_map]
theorem jG {T:Nat} {t u:Template} {g:Gadgets} {x:Instance} (hG:GV T t u g) (hv:1≤x.vars∧x.vars≤10) (hc:x.cons.length≤24) (hC:∀ c∈x.cons,CV t x.vars c) :
    aN g x=some (zZ g x)∧bO g x=some (zZ g x)∧AB (kC g x).1 (kC g x).2:=by
  obtain⟨a1,a2,a3,a4,a5,a6⟩:=sT (ρ:=Instance×(List Int)×Int) (ρ':=Instance×(List Int)×Int) hG (n:=x.vars) x.cons 0 x.vars [] hC (Int.le_refl _) (by omega) (by omega) (by simp only[List.length_nil];omega) (fun b hb=>nomatch hb);have eA:x.cons.foldl (fJ g) (x.vars,[])=kC g x:=rfl;rw[eA] at a1 a2 a3 a4 a5 a6
  have hVn:(((kC g x).1.toNat:Nat):Int)=(kC g x).1:=by omega
  have a5':AB (((kC g x).1.toNat:Nat):Int) (kC g x).2:=by rw[hVn];exact a5
  obtain⟨b1,b2,b3⟩:=xEo (ρ:=Instance×(List Int)×Int) (ρ':=Instance×(List Int)×Int) (V:=(kC g x).1.toNat) (kC g x).2 0 (vH 0 (kC g x).1.toNat) a5' (zG _ _);have eS:(kC g x).2.foldl zN (vH 0 (kC g x).1.toNat)=qO g x:=rfl;rw[eS] at b1 b2 b3;have hrep:Rep (qO g x):=sH _ _ (uJ _) (zG _ _) a5'
  have hnl:((vV (qO g x)).length:Int)=(kC g x).1:=by unfold vV;rw[List.length_map,b3];exact hVn
  obtain⟨c1,c2⟩:=xCq (ρ:=Instance×(List Int)×Int) (ρ':=Instance×(List Int)×Int) hnl (kC g x).2 0 [] a5 (by simp only[List.length_nil];omega);rw[List.nil_append] at c1 c2
  have hsl:sl (vV (qO g x)) 0 x.vars=some ((vV (qO g x)).take x.vars.toNat):=by
    have:=xJg (tp:=vV (qO g x)) (n:=x.vars.toNat) (by omega);rw[show((x.vars.toNat:Nat):Int)=x.vars by omega] at this;exact this
  refine⟨?_,?_,a5⟩
  · unfold aN
    rw[a1,thn_nx];simp only
    have hcount:eL (kC g x).1=some (vH 0 (kC g x).1.toNat):=by
      have:=xKe (m:=(kC g x).1.toNat) (by omega);rw[hVn] at this;exact this
    rw[hcount,bnd_s,b1,thn_nx]
    have hz:mkz (0:Int) (kC g x).1=some (tW (qO g x) 0):=by
      unfold mkz
      rw[if_pos ⟨by omega,by omega⟩]
      congr 1
      apply List.ext_getElem?
      intro j
      unfold tW
      rw[b3]
      by_cases hj:j<(kC g x).1.toNat
      · rw[List.getElem?_map,List.getElem?_range hj,List.getElem?_replicate,if_pos hj,Option.map_some,if_neg (by omega)]
      · rw[List.getElem?_eq_none (by simp;omega),List.getElem?_eq_none (by simp;omega)]
    have n1:=xBz (ρ:=Instance×(List Int)×Int) hrep (by rw[b3];omega) (qO g x).length 0 (by omega);have n2:=xIi (ρ:=Instance×(List Int)×Int) hrep (qO g x).length 0 (by omega);rw[show vX (qO g x) 0=0 from rfl] at n1;rw[b3] at n1 n2;rw[hz,bnd_s];rw[show((0:Nat):Int)=0 from rfl] at n1;rw[n1,thn_nx];simp only;have e12:=oCt (qO g x);have e2:=xTj (qO g x);rw[b3] at e12 e2;rw[e12,n2,thn_nx,e2,c1,thn_nx]
    unfold zZ
    rw[b3]
    by_cases h1:(10:Int)<(vX (qO g x) (kC g x).1.toNat:Int)
    · simp [h1]
    · by_cases h2:(24:Int)<((gO (vV (qO g x)) (kC g x).2).length:Int)
      · simp [h1,h2]
      · simp [h1,h2,hsl]
  · unfold bO
    have hup:gI 0 x.vars=some (vH 0 x.vars.toNat):=by
      have:=xJt (V:=0) (m:=x.vars.toNat) (by omega) (by omega);rw[show((x.vars.toNat:Nat):Int)=x.vars by omega] at this;exact this
    rw[hup,bnd_s,a2,thn_nx];simp only;rw[b2,thn_nx,xRb (F:=wO (qO g x)) (by rw[b3];omega) (by rw[b3];omega) (xVj _) (fun y=>xTp hrep),bnd_s,xNx hrep,thn_nx,c2,thn_nx,xMc]
    unfold zZ
    have hcl:oD ((vV (qO g x)).take x.vars.toNat)=some ((vV (qO g x)).take x.vars.toNat):=by
      unfold oD
      rw[zD (by rw[List.length_take];simp only[List.length_nil];omega),bnd_s,List.nil_append]
    by_cases h1:(10:Int)<(vX (qO g x) (qO g x).length:Int)
    · simp [h1]
    · by_cases h2:(24:Int)<((gO (vV (qO g x)) (kC g x).2).length:Int)
      · simp [h1,h2]
      · simp [h1,h2,hsl,hcl]
def xMv (t:Template) (vars:Int) (c:Con):Bool:=(decide (0≤c.rel) && decide (c.rel≤(t.rels.length:Int) - 1)) && (((c.scope.length:Int)==(t.rels.getD c.rel.toNat default).arity) && c.scope.all (okV vars))
def wW (t:Template) (x:Instance):Bool:=gU t && ((decide (1≤x.vars) && decide (x.vars≤10)) && (decide ((x.cons.length:Int)≤24) && x.cons.all (xMv t x.vars)))
theorem xVb {t:Template} {c:Con} (h:(decide (0≤c.rel) && decide (c.rel≤(t.rels.length:Int) - 1))=true):ix t.rels c.rel=some (t.rels.getD c.rel.toNat default):=by
  simp at h
  exact gQ h.1 (by rw[List.getD_eq_getElem?_getD,List.getElem?_eq_getElem (by omega)];rfl)
theorem xJx (l:List Con) (p:Con→Bool) (f:Con→Option Bool) (hf:∀ x∈l,f x=some (p x)):zL l f=some (l.any p):=by
  obtain⟨i,h1,h2⟩:=rD l p f hf
  unfold zL zF
  rw[h1,bnd_s,h2]
theorem xEu {t:Template} {x:Instance} (ht:aI t):fP t x=some (wW t x)∧bJ t x=some (wW t x):=by
  have e0:oJ (Template.mk t.size t.rels)=some (gU t):=dF t ht
  unfold fP bJ wW
  rw[eZ t ht,e0,bnd_s,bnd_s]
  by_cases h1:gU t=true
  · have hn:=(uF ht h1).n
    simp only[h1,Bool.not_true,Bool.false_eq_true,if_false,if_true,Bool.true_and,pO,bnd_s]
    unfold rL
    simp only[gL,bnd_s]
    by_cases h2:(decide (1≤x.vars) && decide (x.vars≤10))=true
    · have hv:1≤x.vars∧x.vars≤10:=by simpa using h2
      simp only[h2,Bool.not_true,Bool.false_eq_true,if_false,if_true,Bool.true_and,thn_nx]
      by_cases h3:(x.cons.length:Int)≤24
      · have h3':¬ (24:Int)<(x.cons.length:Int):=by omega
        simp only[h3,h3',decide_true,decide_false,Bool.false_eq_true,if_false,if_true,Bool.true_and]
        constructor
        · exact uG (xMv t x.vars) (fun j c _=>by
            simp only[kW (x:=(t.rels.length:Int) - 1) (by omega) (by omega),bnd_s]
            unfold xMv
            by_cases h4:(decide (0≤c.rel) && decide (c.rel≤(t.rels.length:Int) - 1))=true
            · rw[h4]
              simp only[Bool.not_true,Bool.false_eq_true,if_false,Bool.true_and,xVb h4,bnd_s]
              by_cases h5:((c.scope.length:Int)==(t.rels.getD c.rel.toNat default).arity)=true
              · have h6:((c.scope.length:Int) != (t.rels.getD c.rel.toNat default).arity)=false:=by simpa using h5
                rw[h6,h5,if_neg (by simp),xLa (by omega),bnd_s,thn_nx]
                cases c.scope.all (okV x.vars)<;>rfl
              · have h5':((c.scope.length:Int)==(t.rels.getD c.rel.toNat default).arity)=false:=by simpa using h5
                have h6:((c.scope.length:Int) != (t.rels.getD c.rel.toNat default).arity)=true:=by simpa using h5
                rw[h6,h5',if_pos rfl,thn_nx]
                rfl
            · have h4':(decide (0≤c.rel) && decide (c.rel≤(t.rels.length:Int) - 1))=false:=by simpa using h4
              rw[h4']
              rfl)
        · rw[xJx x.cons (fun c=>!xMv t x.vars c) _ (fun c _=>by
            unfold eE
            simp only[kW (x:=(t.rels.length:Int) - 1) (by omega) (by omega),bnd_s,gL]
            unfold xMv
            by_cases h4:(decide (0≤c.rel) && decide (c.rel≤(t.rels.length:Int) - 1))=true
            · rw[h4]
              simp only[Bool.not_true,Bool.false_eq_true,if_false,Bool.true_and,xVb h4,bnd_s,xDh (s:=x.vars) (by omega),thn_nx]
              rfl
            · have h4':(decide (0≤c.rel) && decide (c.rel≤(t.rels.length:Int) - 1))=false:=by simpa using h4
              rw[h4']
              rfl),bnd_s,thn_nx,← List.not_all_eq_any_not,Bool.not_not]
      · have h3':(24:Int)<(x.cons.length:Int):=by omega
        simp [h3,h3']
    · have h2':(decide (1≤x.vars) && decide (x.vars≤10))=false:=by simpa using h2
      rw[h2'];exact⟨rfl,rfl⟩
  · have h1':gU t=false:=by simpa using h1
    rw[h1'];exact⟨rfl,rfl⟩
theorem xJo {t:Template} {x:Instance} (h:wW t x=true):(1≤x.vars∧x.vars≤10)∧x.cons.length≤24∧∀ c∈x.cons,CV t x.vars c:=by
  unfold wW at h
  simp only[Bool.and_eq_true,decide_eq_true_eq] at h;obtain⟨_,h2,h3,h4⟩:=h;refine⟨h2,by omega,fun c hc=>?_⟩;have h5:=List.all_eq_true.1 h4 c hc
  unfold xMv at h5
  simp only[Bool.and_eq_true,decide_eq_true_eq] at h5;obtain⟨h6',h7,h8⟩:=h5
  have h9:(c.scope.length:Int)=(t.rels.getD c.rel.toNat default).arity:=by simpa using h7
  refine⟨fun i hi=>?_,_,h6'.1,?_,?_,h9⟩
  · have:=List.all_eq_true.1 h8 i hi
    unfold okV at this
    simp at this
    omega
  · rw[List.getD_eq_getElem?_getD,List.getElem?_eq_getElem (by omega)];rfl
  · rw[List.getD_eq_getElem?_getD,List.getElem?_eq_getElem (show c.rel.toNat<t.rels.length by omega)]
    exact List.getElem_mem _
def mS (t u:Template) (g:Gadgets) (x:Instance):Bool:=lR t u g && wW t x
theorem wA {N:Nat} {t u:Template} {g:Gadgets} {x:Instance} (ht:aI t) (hu:aI u) (hN:1100≤N):aP N t u g x=some (mS t u g x)∧kJ N t u g x=some (if mS t u g x then 0 else 1):=by
  have b1:qU N (Template.mk t.size t.rels) (Template.mk u.size u.rels) (Gadgets.mk g.formulas)=some (lR t u g):=(iM ht hu hN).2;have b2:bJ (Template.mk t.size t.rels) (Instance.mk x.vars x.cons)=some (wW t x):=(xEu ht).2
  unfold aP kJ mS
  rw[xAk ht hu hN,b1,bnd_s,bnd_s]
  cases lR t u g
  · exact⟨rfl,rfl⟩
  · rw[(xEu ht).1,b2]
    cases wW t x<;>exact⟨rfl,rfl⟩
def yZ (t u:Template) (g:Gadgets) (x:Instance):Instance×(List Int)×Int:=if mS t u g x then zZ g x else (⟨0,[]⟩,[],1)
theorem mH {N:Nat} {t u:Template} {g:Gadgets} {x:Instance} (ht:aI t) (hu:aI u) (hN:1100≤N):cA N t u g x=some (yZ t u g x)∧kR N t u g x=some (yZ t u g x):=by
  have a1:aP N (Template.mk t.size t.rels) (Template.mk u.size u.rels) (Gadgets.mk g.formulas) (Instance.mk x.vars x.cons)=some (mS t u g x):=(wA ht hu hN).1;have a2:kJ N (Template.mk t.size t.rels) (Template.mk u.size u.rels) (Gadgets.mk g.formulas) (Instance.mk x.vars x.cons)=some (if mS t u g x then 0 else 1):=(wA ht hu hN).2
  unfold cA kR yZ
  rw[a1,a2,bnd_s,bnd_s]
  by_cases h:mS t u g x=true
  · have h':=h
    unfold mS at h'
    rw[Bool.and_eq_true] at h';have hV:=h'.1
    unfold lR at hV
    rw[Bool.and_eq_true] at hV;have hG:=tA ht hu hV.1;obtain⟨i1,i2,i3⟩:=xJo h'.2;obtain⟨p1,p2,_⟩:=jG hG i1 i2 i3;have p1':aN (Gadgets.mk g.formulas) (Instance.mk x.vars x.cons)=some (zZ g x):=p1;have p2':bO (Gadgets.mk g.formulas) (Instance.mk x.vars x.cons)=some (zZ g x):=p2;rw[h,p1',p2'];exact⟨rfl,rfl⟩
  · have h':mS t u g x=false:=by simpa using h
    rw[h'];exact⟨rfl,rfl⟩
theorem xOk {α:Type} (c:α→Nat) (B:Nat):∀ (l:List α),(∀ x∈l,c x≤B)→xLo c l≤B*l.length
  | [],_=>by simp [xLo]
  | x::r,h=>by
    have:=xOk c B r (fun y hy=>h y (by simp [hy]));have:=h x (by simp);rw[xHt,List.length_cons,Nat.mul_succ]
    omega
theorem xTy {g:Gadgets} {x:Instance} (hA:AB (kC g x).1 (kC g x).2) (hv:x.vars≤10):(zZ g x).1.cnt≤200∧(zZ g x).2.1.length≤10:=by
  unfold zZ
  split
  · decide
  · rename_i h
    simp at h
    constructor
    · have hs:=xOk Con.ecnt 5 (gO (vV (qO g x)) (kC g x).2) (fun c hc=>by
        obtain⟨a,ha,rfl⟩:=List.mem_map.1 hc;have:=(hA a (List.mem_filter.1 ha).1).1
        unfold Con.ecnt Con.cnt
        simp only;rw[cntI,aL,List.length_map]
        omega)
      unfold Instance.cnt
      simp only;have h2:=h.2;have:5*(gO (vV (qO g x)) (kC g x).2).length≤5*24:=Nat.mul_le_mul_left _ (by omega)
      omega
    · simp only[List.length_take]
      omega
end Go.Proofs.YtlommebgedmjdaaGreatDoor
namespace Go.Proofs.YtlommebgedmjdaaGreatDoor
set_option linter.unusedVariables false
set_option linter.unusedSimpArgs false
set_option maxRecDepth 100000
def RB (u:Template) (L:List Atom):Prop:=∀ b∈L,b.rel= -1∨∃ r:Rel,0≤b.rel∧u.rels[b.rel.toNat]?=some r∧r∈u.rels∧(b.args.length:Int)=r.arity
theorem xTb {T:Nat} {t u:Template} {g:Gadgets} (hG:GV T t u g) {n:Int}:∀ (l:List Con) (V:Int) (L:List Atom),(∀ c∈l,CV t n c)→RB u L→RB u (l.foldl (fJ g) (V,L)).2
  | [],V,L,_,hL=>hL
  | c::l,V,L,hC,hL=>by
    rw[List.foldl_cons];obtain⟨_,r,_,hr,_,_⟩:=hC c (by simp)
    have hlt:c.rel.toNat<g.formulas.length:=by rw[hG.n];exact(List.getElem?_eq_some_iff.1 hr).1
    have hf:=List.getElem?_eq_getElem hlt
    have hd:g.formulas.getD c.rel.toNat default=g.formulas[c.rel.toNat]:=by rw[List.getD_eq_getElem?_getD,hf];rfl
    refine xTb hG l _ _ (fun c' h'=>hC c' (by simp [h'])) (fun b hb=>?_)
    rcases List.mem_append.1 hb with hb | hb
    · exact hL b hb
    · obtain⟨a,ha,rfl⟩:=List.mem_map.1 hb
      rw[hd] at ha
      rcases((hG.f _ _ hf).1.a a ha).2 with ⟨e,_⟩ | ⟨r,h0,h1,h2,h3⟩
      · exact .inl e
      · exact .inr ⟨r,h0,h1,h2,by rw[List.length_map];exact h3⟩
theorem mK (S:List Int) {a b:Nat} (h:a≤b):vX S a≤vX S b:=by
  induction b with
  | zero => obtain rfl : a = 0 := by omega
            exact Nat.le_refl _
  | succ b ih=>
    by_cases e:a=b+1
    · subst e;exact Nat.le_refl _
    · have:=ih (by omega)
      rw[gG]
      omega
theorem xEd {S:List Int} (h:Rep S) {i:Nat} (hi:i<S.length):0≤(vV S).getD i 0∧(vV S).getD i 0<(vX S S.length:Int):=by
  obtain⟨h0,h1,h2⟩:=h i S[i] (List.getElem?_eq_getElem hi)
  have e:(vV S).getD i 0=(vX S (S[i]).toNat:Int):=by
    unfold vV
    rw[List.getD_eq_getElem?_getD,List.getElem?_map,List.getElem?_eq_getElem hi]
    rfl
  have hf:cZ S (S[i]).toNat=true:=by
    unfold cZ
    rw[List.getD_eq_getElem?_getD,h2]
    simp
    omega
  have hs:=gG S (S[i]).toNat;rw[if_pos hf] at hs;have hm:=mK S (a:=(S[i]).toNat+1) (b:=S.length) (by omega);rw[e]
  omega
def CW (u:Template) (n:Int) (c:Con):Prop:=CV u n c∧c.scope.length≤4
theorem xEg {T:Nat} {t u:Template} {g:Gadgets} {x:Instance} (hG:GV T t u g) (hC:∀ c∈x.cons,CV t x.vars c) (h0:0≤(kC g x).1) (hA:AB (kC g x).1 (kC g x).2) :
    (∀ c∈(zZ g x).1.cons,CW u (zZ g x).1.vars c)∧((zZ g x).2.2=0→∀ i∈(zZ g x).2.1,0≤i∧i<(zZ g x).1.vars):=by
  have hR:RB u (kC g x).2:=xTb hG x.cons x.vars [] hC (fun b hb=>nomatch hb)
  have hA':AB (((kC g x).1.toNat:Nat):Int) (kC g x).2:=by rw[Int.toNat_of_nonneg h0];exact hA
  have hrep:Rep (qO g x):=sH _ _ (uJ _) (zG _ _) hA'
  have hlen:(qO g x).length=(kC g x).1.toNat:=by
    unfold qO
    have:∀ (l:List Atom) (s:List Int),(l.foldl zN s).length=s.length:=by
      intro l
      induction l with
      | nil=>intro s;rfl
      | cons a l ih=>intro s;rw[List.foldl_cons,ih,cF]
    rw[this,zG]
  unfold zZ
  split
  · exact⟨fun c hc=>(nomatch hc),fun h=>absurd h (by decide)⟩
  · refine⟨fun c hc=>?_,fun _ i hi=>?_⟩
    · obtain⟨a,ha,rfl⟩:=List.mem_map.1 hc
      obtain⟨ha,hne⟩:=List.mem_filter.1 ha
      have hne':a.rel ≠ -1:=by simpa using hne
      obtain⟨k1,k2,k3⟩:=hA a ha
      rcases hR a ha with e | hr
      · exact absurd e hne'
      · obtain⟨r,r0,r1,r2,r3⟩:=hr
        refine⟨⟨fun i hi=>?_,r,r0,r1,r2,?_⟩,?_⟩
        · obtain⟨j,hj,rfl⟩:=List.mem_map.1 hi
          have:=k3 j hj;exact xEd hrep (by omega)
        · show((aL _ a.args).length:Int)=_
          unfold aL
          rw[List.length_map];exact r3
        · show(aL _ a.args).length≤4
          unfold aL
          rw[List.length_map];exact k1
    · have hi':=List.mem_of_mem_take hi
      obtain⟨j,hj,rfl⟩:=List.getElem_of_mem hi'
      have hj':j<(qO g x).length:=by unfold vV at hj;rwa [List.length_map] at hj
      have:=xEd hrep hj';rw[List.getD_eq_getElem?_getD,List.getElem?_eq_getElem hj] at this;exact this
def mE (u:Template) (vs:List Int) (c:Con):Bool:=decide (aL vs c.scope∈(u.rels.getD c.rel.toNat default).tuples)
theorem xCm {T N:Nat} {u:Template} {vs:List Int} {c:Con} (hu:TV T u) (h:CW u vs.length c) (hN:1100≤N):eJ u c vs=some (mE u vs c)∧bW N c u vs=some (!mE u vs c):=by
  obtain⟨⟨h1,r,r0,r1,r2,r3⟩,h2⟩:=h;have e1:=lG (vs:=vs) h1 (by omega);have e2:=xBi (vs:=vs) h1 (by omega);obtain⟨m,_,_,_,hasc,_⟩:=hu.r r r2
  have hg:u.rels.getD c.rel.toNat default=r:=by rw[List.getD_eq_getElem?_getD,r1];rfl
  have hix:=gQ r0 r1
  unfold eJ bW mE
  rw[hix,bnd_s,bnd_s,e1,bnd_s,e2,bnd_s,hg];refine⟨?_,?_⟩
  · rw[xCt,bnd_s]
  · have:=xKb (N:=N) (r:=r) (t:=aL vs c.scope) hasc (by have:=(hu.r r r2).len hu.t;omega) (by omega)
    rw[this,bnd_s]
theorem xQf {α:Type} (l:List α) (p:α→Bool) (f:α→Option Bool) (hf:∀ x∈l,f x=some (p x)):∃ i:Int,vC (oM (σ:=Unit) (ρ:=Int) (fun(k:Nat) (x:α) (s:Unit)=>
    match s with
    | _=>
    xK (f x) fun z=>
    if (!z) then
     some (.ret ((k:Int)))
    else
     some (.go ())) l 0 ()) (fun _=>some (-1))=some i∧decide (0≤i)=l.any (fun x=>!p x):=by
  obtain⟨i,h1,h2⟩:=rD l (fun x=>!p x) (fun x=>xK (f x) fun z=>some (!z)) (fun x hx=>by rw[hf x hx];rfl);refine⟨i,?_,h2⟩;rw[← h1]
  congr 2
  funext k x s
  show xK (f x) _=xK (xK (f x) _) _
  cases f x<;>rfl
theorem uT {T N:Nat} {u:Template} {vs:List Int} {y:Instance} (hu:TV T u) (h:∀ c∈y.cons,CW u vs.length c) (hN:1100≤N):∃ i j,aU u y vs=some i∧dZ N u y vs=some j∧decide (0≤i)=y.cons.any (fun c=>!mE u vs c)∧decide (0≤j)=y.cons.any (fun c=>!mE u vs c):=by
  obtain⟨i,h1,h2⟩:=xQf y.cons (mE u vs) (fun c=>eJ u c vs) (fun c hc=>(xCm hu (h c hc) hN).1);obtain⟨j,k1,k2⟩:=rD y.cons (fun c=>!mE u vs c) (fun c=>bW N c u vs) (fun c hc=>(xCm hu (h c hc) hN).2);refine⟨i,j,h1,?_,h2,k2⟩
  unfold dZ zF
  have e:bW N=fun a=>bW N a:=rfl;rw[k1,bnd_s]
def xLj (t u:Template) (g:Gadgets) (x:Instance) (vs:List Int):List Int×Int:=
  if mS t u g x then
    if (zZ g x).2.2 != 0 then ([],(zZ g x).2.2)
    else if lD u.size vs (zZ g x).1.vars then
      if (zZ g x).1.cons.any (fun c=>!mE u vs c) then ([],4) else (aL vs (zZ g x).2.1,0)
    else ([],2)
  else ([],1)
theorem wV {N:Nat} {t u:Template} {g:Gadgets} {x:Instance} {vs:List Int} (ht:aI t) (hu:aI u) (hN:1100≤N):uP N t u g x vs=some (xLj t u g x vs)∧bU N t u g x vs=some (xLj t u g x vs):=by
  have a1:aP N (Template.mk t.size t.rels) (Template.mk u.size u.rels) (Gadgets.mk g.formulas) (Instance.mk x.vars x.cons)=some (mS t u g x):=(wA ht hu hN).1;have a2:kJ N (Template.mk t.size t.rels) (Template.mk u.size u.rels) (Gadgets.mk g.formulas) (Instance.mk x.vars x.cons)=some (if mS t u g x then 0 else 1):=(wA ht hu hN).2
  unfold uP bU xLj
  rw[a1,a2,bnd_s,bnd_s]
  by_cases h:mS t u g x=true
  · have h':=h
    unfold mS at h'
    rw[Bool.and_eq_true] at h';have hV:=h'.1
    unfold lR at hV
    rw[Bool.and_eq_true] at hV;have hG:=tA ht hu hV.1;obtain⟨i1,i2,i3⟩:=xJo h'.2;obtain⟨p1,p2,p3⟩:=jG hG i1 i2 i3;obtain⟨_,_,a3,a4,a5,a6⟩:=sT (ρ:=Instance×(List Int)×Int) (ρ':=Instance×(List Int)×Int) hG (n:=x.vars) x.cons 0 x.vars [] i3 (Int.le_refl _) (by omega) (by omega) (by simp only[List.length_nil];omega) (fun b hb=>nomatch hb)
    have a4':0≤(kC g x).1:=by
      have eA:x.cons.foldl (fJ g) (x.vars,[])=kC g x:=rfl;rw[eA] at a3 a4 a6
      omega
    obtain⟨q1,q2⟩:=xEg hG i3 a4' p3;have p1':aN (Gadgets.mk g.formulas) (Instance.mk x.vars x.cons)=some (zZ g x):=p1;have p2':bO (Gadgets.mk g.formulas) (Instance.mk x.vars x.cons)=some (zZ g x):=p2;rw[h,p1',p2'];have hl10:=(xTy (g:=g) (x:=x) p3 i1.2).2;generalize zZ g x=y at q1 q2 hl10 ⊢;simp only[Bool.not_true,Bool.false_eq_true,if_false,if_true,bnd_s];have e0:((0:Int) != 0)=false:=rfl;rw[e0];simp only[Bool.false_eq_true,if_false]
    by_cases hc:(y.2.2 != 0)=true
    · rw[hc];exact⟨rfl,rfl⟩
    · have hc':(y.2.2 != 0)=false:=by simpa using hc
      have hz:y.2.2=0:=by simpa using hc'
      have hs:okS u.size=true:=by have:=hG.uV.s;have:=hG.uV.t;unfold okS;simp;omega
      rw[hc',rR hs,pA hs];simp only[Bool.false_eq_true,if_false,bnd_s]
      by_cases hb:lD u.size vs y.1.vars=true
      · have hbl:(vs.length:Int)=y.1.vars:=by
          unfold lD at hb
          rw[Bool.and_eq_true] at hb
          simpa using hb.1
        rw[hb];simp only[Bool.not_true,Bool.false_eq_true,if_false,if_true];obtain⟨i,j,f1,f2,f3,f4⟩:=uT (N:=N) (y:=y.1) hG.uV (fun c hc=>by rw[hbl];exact q1 c hc) hN;have f1':aU (Template.mk u.size u.rels) (Instance.mk y.1.vars y.1.cons) vs=some i:=f1;have f2':dZ N (Template.mk u.size u.rels) (Instance.mk y.1.vars y.1.cons) vs=some j:=f2;rw[f1',f2',bnd_s,bnd_s,f3,f4]
        have g1:∀ i∈y.2.1,0≤i∧i<vs.length:=fun i hi=>by rw[hbl];exact q2 hz i hi
        rw[lG g1 (by omega),xBi g1 (by omega)]
        cases (y.1.cons.any fun c=>!mE u vs c)<;>exact⟨rfl,rfl⟩
      · have hb':lD u.size vs y.1.vars=false:=by simpa using hb
        rw[hb'];exact⟨rfl,rfl⟩
  · have h':mS t u g x=false:=by simpa using h
    rw[h'];exact⟨rfl,rfl⟩
end Go.Proofs.YtlommebgedmjdaaGreatDoor
namespace Go.Proofs.YtlommebgedmjdaaGreatDoor
set_option linter.unusedVariables false
set_option linter.unusedSimpArgs false
set_option maxRecDepth 100000
def Rng (T:Int) (vs:List Int):Prop:=∀ x∈vs,0≤x∧x<T
theorem xVw {vs ws args:List Int} (h:∀ i∈args,0≤i∧i<(vs.length:Int)):aL (vs++ws) args=aL vs args:=by
  unfold aL
  apply List.map_congr_left
  intro i hi;have:=h i hi;rw[List.getD_eq_getElem?_getD,List.getD_eq_getElem?_getD,List.getElem?_append_left (by omega)]
theorem xGq {vs args:List Int} {n:Nat} (h:∀ i∈args,0≤i∧i<(n:Int)):aL (vs.take n) args=aL vs args:=by
  unfold aL
  apply List.map_congr_left
  intro i hi;have:=h i hi;rw[List.getD_eq_getElem?_getD,List.getD_eq_getElem?_getD,List.getElem?_take,if_pos (by omega)]
theorem rT {u:Template} {a:Atom} {vs ws:List Int} (h:aL vs a.args=aL ws a.args):cY u a vs=cY u a ws:=by unfold cY;rw[h]
theorem xCk {u:Template} {f:Formula}:∀ (d:Nat) (vs ws:List Int),bB u f d vs=some ws→ws.length=vs.length+d∧ws.take vs.length=vs∧(∀ n,vs.length<n→n≤vs.length+d→vA u f (ws.take n)=true)∧∀ x∈ws.drop vs.length,0≤x∧x<(u.size.toNat:Int)
  | 0,vs,ws,h=>by
    obtain rfl:=Option.some.inj h;exact⟨rfl,List.take_of_length_le (Nat.le_refl _),fun n h1 h2=>by omega,fun x hx=>by rw[List.drop_of_length_le (Nat.le_refl _)] at hx;cases hx⟩
  | d+1,vs,ws,h=>by
    rw[bB] at h;obtain⟨a,ha,h⟩:=List.exists_of_findSome?_eq_some h;have ha':=(List.mem_range'_1.1 ha).2
    split at h
    · rename_i hs
      obtain⟨h1,h2,h3,h4⟩:=xCk d _ ws h
      have hl:(vs++[(a:Int)]).length=vs.length+1:=by simp
      rw[hl] at h1 h2 h3 h4
      have e2:ws.take vs.length=vs:=by
        have:=congrArg (List.take vs.length) h2;rw[List.take_take,Nat.min_eq_left (by omega),List.take_append_of_le_length (Nat.le_refl _),List.take_of_length_le (Nat.le_refl _)] at this;exact this
      refine⟨by omega,e2,fun n h5 h6=>?_,fun x hx=>?_⟩
      · by_cases e:n=vs.length+1
        · rw[e,h2];exact hs
        · exact h3 n (by omega) (by omega)
      · rw[List.drop_eq_getElem_cons (by omega)] at hx
        rcases List.mem_cons.1 hx with rfl | hx
        · have e3:ws[vs.length]?=some (a:Int):=by
            have:=congrArg (fun l=>l[vs.length]?) h2;simp only[List.getElem?_take,Nat.lt_succ_self,if_true] at this;rw[this]
            simp
          rw[List.getElem?_eq_getElem (by omega)] at e3;rw[Option.some.inj e3]
          omega
        · exact h4 x hx
    · cases h
theorem yU {u:Template} {f:Formula} {Y:List Int} (hY:∀ n,1≤n→n≤Y.length→vA u f (Y.take n)=true) (hr:Rng u.size.toNat Y):∀ (d k:Nat),k+d=Y.length→(bB u f d (Y.take k)).isSome=true
  | 0,k,_=>rfl
  | d+1,k,hk=>by
    have hlt:k<Y.length:=by omega
    have e:Y.take k++[Y[k]]=Y.take (k+1):=by rw[List.take_add_one,List.getElem?_eq_getElem hlt];rfl
    have hx:=hr _ (List.getElem_mem hlt)
    cases hq:bB u f (d+1) (Y.take k) with
    | some _=>rfl
    | none=>
      rw[bB] at hq;have:=List.findSome?_eq_none_iff.1 hq Y[k].toNat (List.mem_range'_1.2 ⟨by omega,by omega⟩);rw[Int.toNat_of_nonneg hx.1,e,if_pos (hY (k+1) (by omega) (by omega))] at this;have h2:=yU hY hr d (k+1) (by omega);rw[this] at h2
      cases h2
theorem AV.rg {T:Nat} {u:Template} {n:Nat} {a:Atom} (hu:TV T u) (h:AV u n a):0≤mx a.args∧mx a.args<(n:Int)∧∀ i∈a.args,0≤i∧i≤mx a.args:=by
  have hl:=h.len hu
  have hn:(0:Int)<n:=by
    cases e:a.args with
    | nil=>rw[e] at hl;simp at hl
    | cons i r=>have:=h.1 i (by rw[e];simp);omega
  have:=xXl h.1 hn;exact⟨this.1,this.2,fun i hi=>⟨(h.1 i hi).1,(xOp (l:=a.args) (s:=0)).2 i hi⟩⟩
theorem xJc {T:Nat} {u:Template} {f:Formula} {Y:List Int} (hu:TV T u) (ha:∀ a∈f.atoms,AV u f.vars.toNat a) (hA:∀ a∈f.atoms,cY u a Y=true) {n:Nat} (h1:1≤n) (h2:n≤Y.length):vA u f (Y.take n)=true:=by
  unfold vA
  rw[List.all_eq_true];intro a hm;obtain⟨h3,h4,h5⟩:=(ha a hm).rg hu
  have hl:((Y.take n).length:Int)=n:=by rw[List.length_take];omega
  rw[hl]
  by_cases e:mx a.args=(n:Int) - 1
  · rw[decide_eq_true e,rT (xGq (fun i hi=>by have:=h5 i hi;omega)),hA a hm]
    rfl
  · rw[decide_eq_false e]
    rfl
theorem xJf {T:Nat} {u:Template} {f:Formula} {tp ws:List Int} (hu:TV T u) (ha:∀ a∈f.atoms,AV u f.vars.toNat a) (hl:tp.length≤f.vars.toNat) (hr:Rng u.size.toNat tp) (h:wL u f tp=some ws):ws.length=f.vars.toNat∧ws.take tp.length=tp∧(∀ a∈f.atoms,cY u a ws=true)∧Rng u.size.toNat ws:=by
  unfold wL at h
  split at h
  · rename_i hb
    obtain⟨h1,h2,h3,h4⟩:=xCk _ _ _ h;refine⟨by omega,h2,fun a hm=>?_,fun x hx=>?_⟩
    · obtain⟨k3,k4,k5⟩:=(ha a hm).rg hu
      have hs:vA u f (ws.take ((mx a.args).toNat+1))=true:=by
        by_cases hle:(mx a.args).toNat+1≤tp.length
        · have:=List.all_eq_true.1 hb ((mx a.args).toNat+1) (List.mem_range'_1.2 ⟨by omega,by omega⟩)
          rw[← h2,List.take_take,Nat.min_eq_left hle] at this;exact this
        · exact h3 _ (by omega) (by omega)
      unfold vA at hs
      have hs2:=List.all_eq_true.1 hs a hm
      have hl2:((ws.take ((mx a.args).toNat+1)).length:Int) - 1=mx a.args:=by rw[List.length_take];omega
      rw[hl2,decide_eq_true rfl,Bool.not_true,Bool.false_or,rT (xGq (fun i hi=>by have:=k5 i hi;omega))] at hs2;exact hs2
    · rw[← List.take_append_drop tp.length ws,h2] at hx
      rcases List.mem_append.1 hx with hx | hx
      · exact hr x hx
      · exact h4 x hx
  · cases h
def AR (V:Int) (L:List Atom):Prop:=∀ b∈L,∀ i∈b.args,0≤i∧i<V
theorem kA {l:List Int} {i:Nat} {x:Int} (h:l[i]?=some x):l.getD i 0=x:=by rw[List.getD_eq_getElem?_getD,h];rfl
theorem xXp {T:Nat} {t u:Template} {g:Gadgets} (hG:GV T t u g) (hval:∀ j f,g.formulas[j]?=some f→(dN u f T f.free.toNat).tuples=(t.rels.getD j default).tuples) {vals:List Int} (hvr:Rng u.size.toNat vals) :
    ∀ (l:List Con) (V:Int) (L:List Atom) (W:List Int),(∀ c∈l,CV t vals.length c)→(∀ c∈l,mE t vals c=true)→(W.length:Int)=V→W.take vals.length=vals→Rng u.size.toNat W→AR V L→(∀ a∈L,cY u a W=true) →
    ∃ W',(W'.length:Int)=(l.foldl (fJ g) (V,L)).1∧W'.take vals.length=vals∧Rng u.size.toNat W'∧∀ a∈(l.foldl (fJ g) (V,L)).2,cY u a W'=true
  | [],V,L,W,_,_,h1,h2,h3,h4,h5=>⟨W,h1,h2,h3,h5⟩
  | c::l,V,L,W,hC,hS,h1,h2,h3,h4,h5=>by
    rw[List.foldl_cons];obtain⟨hc1,r,hc2,hr,hrm,hc3⟩:=hC c (by simp)
    have hlt:c.rel.toNat<g.formulas.length:=by rw[hG.n];exact(List.getElem?_eq_some_iff.1 hr).1
    have hf:=List.getElem?_eq_getElem hlt
    have hd:g.formulas.getD c.rel.toNat default=g.formulas[c.rel.toNat]:=by rw[List.getD_eq_getElem?_getD,hf];rfl
    have hgr:t.rels.getD c.rel.toNat default=r:=by rw[List.getD_eq_getElem?_getD,hr];rfl
    have hv:=hval _ _ hf;obtain⟨fv,ffr,_⟩:=hG.f _ _ hf;generalize hfe:g.formulas[c.rel.toNat]=f at hd hv fv ffr;rw[hgr] at ffr hv;have f0:=fv.f0;have v0:=fv.v0;have hcs:=hS c (by simp)
    unfold mE at hcs
    rw[hgr,← hv] at hcs
    have hmem:aL vals c.scope∈(dN u f T f.free.toNat).tuples:=by simpa using hcs
    unfold dN at hmem
    have hwit:=(List.mem_filter.1 hmem).2;obtain⟨ws,hws⟩:=Option.isSome_iff_exists.1 hwit
    have hsl:c.scope.length=f.free.toNat:=by omega
    have hatl:(aL vals c.scope).length=f.free.toNat:=by unfold aL;rw[List.length_map,hsl]
    have hvl:vals.length≤W.length:=by
      have:=congrArg List.length h2;rw[List.length_take] at this
      omega
    have hatr:Rng u.size.toNat (aL vals c.scope):=fun x hx=>by
      obtain⟨i,hi,rfl⟩:=List.mem_map.1 hx;have:=hc1 i hi;rw[List.getD_eq_getElem?_getD,List.getElem?_eq_getElem (by omega)];exact hvr _ (List.getElem_mem _)
    obtain⟨w1,w2,w3,w4⟩:=xJf hG.uV fv.a (by omega) hatr hws;rw[hatl] at w2
    have key:∀ i:Int,0≤i→i<f.vars→0≤(c.scope++vH V (f.vars - f.free).toNat).getD i.toNat 0∧(c.scope++vH V (f.vars - f.free).toNat).getD i.toNat 0<V+(f.vars - f.free)∧(W++ws.drop f.free.toNat).getD ((c.scope++vH V (f.vars - f.free).toNat).getD i.toNat 0).toNat 0=ws.getD i.toNat 0:=fun i i0 i1=>by
      by_cases hi:i.toNat<f.free.toNat
      · have hil:i.toNat<c.scope.length:=by omega
        have e1:(c.scope++vH V (f.vars - f.free).toNat).getD i.toNat 0=c.scope[i.toNat]:=kA (by rw[List.getElem?_append_left hil,List.getElem?_eq_getElem hil]);rw[e1];have hs:=hc1 _ (List.getElem_mem hil);refine⟨hs.1,by omega,?_⟩
        have e2:ws[i.toNat]?=some (vals.getD c.scope[i.toNat].toNat 0):=by
          have:=congrArg (fun l=>l[i.toNat]?) w2;simp only[List.getElem?_take,hi,if_true] at this;rw[this]
          unfold aL
          rw[List.getElem?_map,List.getElem?_eq_getElem hil]
          rfl
        rw[kA e2]
        have e3:W[c.scope[i.toNat].toNat]?=vals[c.scope[i.toNat].toNat]?:=by
          have:=congrArg (fun l=>l[c.scope[i.toNat].toNat]?) h2;simp only[List.getElem?_take] at this;rw[if_pos (by omega)] at this;exact this
        rw[List.getD_eq_getElem?_getD,List.getElem?_append_left (by omega),e3,List.getD_eq_getElem?_getD]
      · have e1:(c.scope++vH V (f.vars - f.free).toNat).getD i.toNat 0=V+((i.toNat - f.free.toNat:Nat):Int):=kA (by rw[List.getElem?_append_right (by omega),hsl,fB (by omega)])
        rw[e1];refine⟨by omega,by omega,?_⟩;rw[List.getD_eq_getElem?_getD,List.getElem?_append_right (by omega),List.getElem?_drop,List.getD_eq_getElem?_getD]
        congr 2
        omega
    have hstep:fJ g (V,L) c=(V+(f.vars - f.free),L++mvB (fun i=>(c.scope++vH V (f.vars - f.free).toNat).getD i.toNat 0) f.atoms):=by
      unfold fJ
      rw[hd]
    rw[hstep];refine xXp hG hval hvr l _ _ (W++ws.drop f.free.toNat) (fun c' h'=>hC c' (by simp [h'])) (fun c' h'=>hS c' (by simp [h'])) ?_ ?_ ?_ ?_ ?_
    · rw[List.length_append,List.length_drop,w1]
      omega
    · rw[List.take_append_of_le_length hvl]
      exact h2
    · intro x hx
      rcases List.mem_append.1 hx with hx | hx
      · exact h3 x hx
      · exact w4 x (List.mem_of_mem_drop hx)
    · intro b hb i hi
      rcases List.mem_append.1 hb with hb | hb
      · have:=h4 b hb i hi
        omega
      · obtain⟨a,ha,rfl⟩:=List.mem_map.1 hb
        obtain⟨j,hj,rfl⟩:=List.mem_map.1 hi;have hj2:=(fv.a a ha).1 j hj;have:=key j hj2.1 (by omega);exact⟨this.1,this.2.1⟩
    · intro b hb
      rcases List.mem_append.1 hb with hb | hb
      · rw[rT (xVw (fun i hi=>by have:=h4 b hb i hi;omega))]
        exact h5 b hb
      · obtain⟨a,ha,rfl⟩:=List.mem_map.1 hb
        have e:aL (W++ws.drop f.free.toNat) (a.args.map fun i=>(c.scope++vH V (f.vars - f.free).toNat).getD i.toNat 0)=aL ws a.args:=by
          unfold aL
          rw[List.map_map]
          apply List.map_congr_left
          intro j hj;have hj2:=(fv.a a ha).1 j hj;exact(key j hj2.1 (by omega)).2.2
        have h6:=w3 a ha
        unfold cY at h6 ⊢
        rw[e];exact h6
theorem xCx {u:Template} {V:Nat} {W:List Int}:∀ (l:List Atom) (S:List Int),(∀ a∈l,cY u a W=true)→AB V l→S.length=V→(∀ v,v<V→W.getD (S.getD v 0).toNat 0=W.getD v 0)→∀ v,v<V→W.getD ((l.foldl zN S).getD v 0).toNat 0=W.getD v 0
  | [],S,_,_,_,h=>h
  | a::l,S,hA,hB,hl,h=>by
    rw[List.foldl_cons];refine xCx l _ (fun b hb=>hA b (by simp [hb])) (fun b hb=>hB b (by simp [hb])) (by rw[cF,hl]) ?_;intro v hv
    unfold zN
    split
    · rename_i e
      obtain⟨_,k2,k3⟩:=hB a (by simp);have hl2:=k2 e
      obtain⟨i,j,e2⟩:∃ i j,a.args=[i,j]:=by
        match h:a.args,hl2 with
        | [x,y],_=>exact⟨x,y,rfl⟩
      have ha:=hA a (by simp)
      unfold cY at ha
      rw[if_pos e,e2] at ha
      have ha':W.getD i.toNat 0=W.getD j.toNat 0:=by simpa [aL] using ha
      have hi:=k3 i (by rw[e2];simp);have hj:=k3 j (by rw[e2];simp);have h1:=h i.toNat (by omega);have h2:=h j.toNat (by omega);rw[e2];simp only[List.getD_cons_zero,List.getD_cons_succ]
      have hx:W.getD (loI (S.getD i.toNat 0) (S.getD j.toNat 0)).toNat 0=W.getD (hiI (S.getD i.toNat 0) (S.getD j.toNat 0)).toNat 0:=by
        unfold loI hiI
        split<;>split<;>first | omega | (rw[h1,h2,ha'])
      have hS:=h v hv
      have hvl:v<S.length:=by omega
      have e4:∀ F:Int→Int,(S.map F).getD v 0=F (S.getD v 0):=fun F=>kA (by rw[List.getElem?_map,List.getElem?_eq_getElem hvl,kA (List.getElem?_eq_getElem hvl)];rfl);rw[e4]
      show W.getD (if S.getD v 0=_ then _ else S.getD v 0).toNat 0=_
      split
      · rename_i e3
        rw[hx,← e3];exact hS
      · exact hS
    · exact h v hv
theorem xWt {S:List Int} {x:Nat} (hx:x<S.length) (hf:cZ S x=true):(wO S)[vX S x]?=some (x:Int):=by
  have hr:List.range S.length=List.range x++x::(List.range' (x+1) (S.length - x - 1)):=by
    have h9:List.range' 0 x++List.range' (0+x) (S.length - x - 1+1)=List.range' 0 (x+(S.length - x - 1+1)):=List.range'_append_1;rw[Nat.zero_add] at h9;rw[List.range_eq_range',List.range_eq_range',← List.range'_succ,h9]
    congr 1
    omega
  unfold wO
  rw[hr,List.filter_append,List.filter_cons,if_pos hf,List.map_append,List.map_cons,List.getElem?_append_right (by rw[List.length_map];exact Nat.le_refl _),List.length_map]
  unfold vX
  rw[Nat.sub_self]
  rfl
def mF (S W:List Int):List Int:=(wO S).map fun x=>W.getD x.toNat 0
theorem xAj {S:List Int} (h:Rep S) {v:Nat} (hv:v<S.length):0≤S[v]∧S[v].toNat≤v∧cZ S S[v].toNat=true:=by
  obtain⟨h0,h1,h2⟩:=h v S[v] (List.getElem?_eq_getElem hv);refine⟨h0,by omega,?_⟩
  unfold cZ
  rw[List.getD_eq_getElem?_getD,h2,Option.getD_some]
  simp
  omega
theorem mX {S:List Int} {v:Nat} (hv:v<S.length):(vV S)[v]?=some (vX S S[v].toNat:Int):=by
  unfold vV
  rw[List.getElem?_map,List.getElem?_eq_getElem hv]
  rfl
theorem xIr {S W:List Int} (h:Rep S) (hW:∀ v,v<S.length→W.getD (S.getD v 0).toNat 0=W.getD v 0) {v:Nat} (hv:v<S.length):(mF S W).getD ((vV S).getD v 0).toNat 0=W.getD v 0:=by
  obtain⟨h0,h1,h2⟩:=xAj h hv;rw[kA (mX hv),Int.toNat_natCast]
  unfold mF
  rw[kA (x:=W.getD S[v].toNat 0) (by rw[List.getElem?_map,xWt (by omega) h2];rfl)];have:=hW v hv;rw[kA (List.getElem?_eq_getElem hv)] at this;exact this
end Go.Proofs.YtlommebgedmjdaaGreatDoor
namespace Go.Proofs.YtlommebgedmjdaaGreatDoor
set_option linter.unusedVariables false
set_option linter.unusedSimpArgs false
set_option maxRecDepth 100000
def fY (K:Int) (y:Instance):Formula:=⟨K,y.vars,y.cons.map fun c=>⟨c.rel,c.scope⟩⟩
theorem oCk {u:Template} {y:Instance} {K:Int} (h:∀ c∈y.cons,CW u y.vars c) (hK:1≤K∧K≤y.vars) (hv:y.vars≤10) (hn:y.cons.length≤24):FX u (fY K y):=by
  refine⟨⟨hK.1,by show K≤10;omega⟩,⟨hK.2,hv⟩,by show(y.cons.map _).length≤24;rw[List.length_map];exact hn,fun a ha=>?_⟩;obtain⟨c,hc,rfl⟩:=List.mem_map.1 ha;obtain⟨⟨h1,h2⟩,_⟩:=h c hc;refine⟨fun i hi=>?_,.inr h2⟩;have:=h1 i hi;have e:(fY K y).vars=y.vars:=rfl;rw[e]
  omega
theorem xAt {u:Template} {n:Int} {c:Con} {vs:List Int} (h:CW u n c):cY u ⟨c.rel,c.scope⟩ vs=mE u vs c:=by
  obtain⟨⟨_,r,h0,_⟩,_⟩:=h
  unfold cY mE
  rw[if_neg (show ¬ (⟨c.rel,c.scope⟩:Atom).rel= -1 by show ¬ c.rel= -1;omega)]
theorem xEz {T:Nat} {u:Template} {y:Instance} {vs:List Int} (K:Int) (hu:TV T u) (h:∀ c∈y.cons,CW u y.vars c) (hl:1≤vs.length∧vs.length≤1000):vU (l05Find.mk u y 0 [] 0) vs=some (vA u (fY K y) vs):=by
  unfold vU
  rw[kW (by omega) (by omega),bnd_s]
  rw[uG (fun c:Con=>!decide (mx c.scope=(vs.length:Int) - 1) || mE u vs c) (fun j c hc=>by
    have hm:=h c (List.mem_of_getElem? hc);simp only;rw[xFl,thn_nx]
    change vC (if (mx c.scope==(vs.length:Int) - 1) then _ else _) _=_
    by_cases e:mx c.scope=(vs.length:Int) - 1
    · have h1:(mx c.scope==(vs.length:Int) - 1)=true:=by simpa using e
      have hw:CW u vs.length c:=⟨⟨fun i hi=>⟨(hm.1.1 i hi).1,by
        have:=(xOp (l:=c.scope) (s:=0)).2 i hi
        unfold mx at e
        omega⟩,hm.1.2⟩,hm.2⟩
      rw[h1,if_pos rfl,(xCm (N:=1100) hu hw (Nat.le_refl _)).1,bnd_s,thn_nx,decide_eq_true e]
      cases mE u vs c<;>rfl
    · have h1:(mx c.scope==(vs.length:Int) - 1)=false:=by simpa using e
      rw[h1,if_neg (by simp),thn_nx,decide_eq_false e]
      rfl)]
  unfold vA fY
  rw[List.all_map]
  congr 1
  have:∀ l:List Con,(∀ c∈l,CW u y.vars c)→(l.all fun c=>!decide (mx c.scope=(vs.length:Int) - 1) || mE u vs c)=l.all ((fun a=>!decide (mx a.args=(vs.length:Int) - 1) || cY u a vs) ∘ fun c=>⟨c.rel,c.scope⟩):=by
    intro l
    induction l with
    | nil=>intro _;rfl
    | cons c l ih=>
      intro hl;rw[List.all_cons,List.all_cons,ih (fun c' h'=>hl c' (by simp [h']))]
      show _=((!decide (mx c.scope=_) || cY u ⟨c.rel,c.scope⟩ vs) && _)
      rw[xAt (hl c (by simp))]
  exact this y.cons h
theorem xMm {T:Nat} {u:Template} {y:Instance} {K:Nat} {told:List Int} (hu:TV T u) (h:∀ c∈y.cons,CW u y.vars c) (hv:0≤y.vars∧y.vars≤10) (ht:∀ j,K≤j→(j:Int)<y.vars→told[j]?=some (-1)) (K':Int):∀ (d N:Nat) (vs:List Int),(vs.length:Int)+d=y.vars→K≤vs.length→d+1≤N→kB N u y told vs=some (match bB u (fY K' y) d vs with | some o=>(o,true) | none=>([],false))
  | 0,N,vs,hd,hK,hN=>by
    obtain⟨M,rfl⟩:∃ M,N=M+1:=⟨N - 1,by omega⟩;rw[kB,if_pos (by simp;omega)]
    rfl
  | d+1,N,vs,hd,hK,hN=>by
    obtain⟨M,rfl⟩:∃ M,N=M+1:=⟨N - 1,by omega⟩;have ih:=xMm hu h hv ht K' d M;have htv:=ht vs.length hK (by omega);rw[kB,if_neg (by simp;omega)]
    have hq:=pH (σ:=Unit) (ρ:=List Int×Bool) (s:=()) (k:=0) (m:=u.size.toNat) (b:=fun(k80:Nat) (s:Unit)=>
      match s with
      | _=>
      vC (σ:=Bool) (
       xK (ix told (vs.length:Int)) fun z102=>
       if (decide (0≤z102)) then  some (.nx (z102 != (k80:Int))) else  some (.nx false)) fun s101=>
      if s101 then
       some (.go ())
      else
       xK (qE vs) fun z112=>
       xK (ap z112 ([(k80:Int)])) fun z119=>
       xK (vU (l05Find.mk u y 0 ([]) 0) z119) fun z123=>
       if (!z123) then
        some (.go ())
       else
        xK (kB M u y told z119) fun z133=>
        if z133.2 then
         some (.ret (z133.1,true))
        else
         some (.go ())) (fun(a:Nat)=>(if vA u (fY K' y) (vs++[(a:Int)]) then bB u (fY K' y) d (vs++[(a:Int)]) else none).map fun o=>(o,true)) (fun a _ _=>by
      simp only;rw[zO htv,bnd_s]
      have h9:decide ((0:Int)≤ -1)=false:=by decide
      rw[h9,if_neg (by simp),thn_nx,if_neg (by simp)]
      unfold qE
      rw[zD (by simp only[List.length_nil];omega),bnd_s,bnd_s,zD (by simp only[List.length_append,List.length_cons,List.length_nil];omega),bnd_s,List.nil_append]
      have hl:(vs++[(a:Int)]).length=vs.length+1:=by simp
      rw[xEz K' hu h (by rw[hl];omega),bnd_s]
      by_cases hs:vA u (fY K' y) (vs++[(a:Int)])=true
      · rw[hs,if_neg (by simp),if_pos rfl,ih _ (by rw[hl];push_cast;omega) (by rw[hl];omega) (by omega),bnd_s]
        cases bB u (fY K' y) d (vs++[(a:Int)])<;>rfl
      · have hs':vA u (fY K' y) (vs++[(a:Int)])=false:=by simpa using hs
        rw[hs',if_pos (by rfl),if_neg (by simp)]
        rfl)
    rw[hq]
    have hmap:∀ (l:List Nat),l.findSome? (fun(a:Nat)=>(if vA u (fY K' y) (vs++[(a:Int)]) then bB u (fY K' y) d (vs++[(a:Int)]) else none).map fun o=>(o,true))=(l.findSome? (fun(a:Nat)=>if vA u (fY K' y) (vs++[(a:Int)]) then bB u (fY K' y) d (vs++[(a:Int)]) else none)).map fun o=>(o,true):=fun l=>by
      induction l with
      | nil=>rfl
      | cons a l ih2=>
        rw[List.findSome?_cons,List.findSome?_cons,ih2]
        cases (if vA u (fY K' y) (vs++[(a:Int)]) then bB u (fY K' y) d (vs++[(a:Int)]) else none)<;>rfl
    rw[hmap];rw[show bB u (fY K' y) (d+1) vs=(List.range' 0 u.size.toNat).findSome? (fun(a:Nat)=>if vA u (fY K' y) (vs++[(a:Int)]) then bB u (fY K' y) d (vs++[(a:Int)]) else none) from rfl]
    cases (List.range' 0 u.size.toNat).findSome? (fun(a:Nat)=>if vA u (fY K' y) (vs++[(a:Int)]) then bB u (fY K' y) d (vs++[(a:Int)]) else none)<;>rfl
theorem xUy {ρ:Type} {r:ρ} {a0:Nat} {m:Nat} (h:a0<m) (p:Nat→Prop) [DecidablePred p] (hp:p a0):(List.range' 0 m).findSome? (fun a=>if p a then some r else none)=some r:=by
  cases hq:(List.range' 0 m).findSome? (fun a=>if p a then some r else none) with
  | none=>
    have:=List.findSome?_eq_none_iff.1 hq a0 (List.mem_range'_1.2 ⟨by omega,by omega⟩);rw[if_pos hp] at this
    cases this
  | some r'=>
    obtain⟨a,_,h2⟩:=List.exists_of_findSome?_eq_some hq
    split at h2
    · exact h2.symm
    · cases h2
theorem xOu {T:Nat} {u:Template} {y:Instance} {Y:List Int} {K:Nat} (hu:TV T u) (h:∀ c∈y.cons,CW u y.vars c) (hv:y.vars≤10) (hYl:(Y.length:Int)=y.vars) (hK:K≤Y.length) (hYr:Rng u.size.toNat Y) (K':Int) (hYs:∀ n,1≤n→n≤Y.length→vA u (fY K' y) (Y.take n)=true) {o:List Int} (ho:bB u (fY K' y) (Y.length - K) (Y.take K)=some o) :
    ∀ (d N:Nat),d≤K→Y.length - K+d+1≤N→kB N u y (Y.take K++List.replicate (Y.length - K) (-1)) (Y.take (K - d))=some (o,true)
  | 0,N,_,hN=>by
    have hl:(Y.take K).length=K:=by rw[List.length_take];omega
    rw[Nat.sub_zero,xMm hu h (by omega) (K:=K) (fun j h1 h2=>by
      rw[List.getElem?_append_right (by rw[hl];exact h1),hl,List.getElem?_replicate,if_pos (by omega)]) K' (Y.length - K) N _ (by rw[hl];omega) (by rw[hl];exact Nat.le_refl _) (by omega),ho]
  | d+1,N,hd,hN=>by
    obtain⟨M,rfl⟩:∃ M,N=M+1:=⟨N - 1,by omega⟩;have ih:=xOu hu h hv hYl hK hYr K' hYs ho d M (by omega) (by omega);generalize hk:K - (d+1)=k
    have hkd:K - d=k+1:=by omega
    rw[hkd] at ih
    have hkl:k<Y.length:=by omega
    have hl:(Y.take k).length=k:=by rw[List.length_take];omega
    have hx:=hYr _ (List.getElem_mem hkl)
    have htold:(Y.take K++List.replicate (Y.length - K) (-1))[k]?=some Y[k]:=by
      rw[List.getElem?_append_left (by rw[List.length_take];omega),List.getElem?_take,if_pos (by omega),List.getElem?_eq_getElem hkl]
    have enext:Y.take k++[Y[k]]=Y.take (k+1):=by rw[List.take_add_one,List.getElem?_eq_getElem hkl];rfl
    rw[kB,if_neg (by rw[hl];simp;omega)]
    have hq:=pH (σ:=Unit) (ρ:=List Int×Bool) (s:=()) (k:=0) (m:=u.size.toNat) (b:=fun(k80:Nat) (s:Unit)=>
      match s with
      | _=>
      vC (σ:=Bool) (
       xK (ix (Y.take K++List.replicate (Y.length - K) (-1)) ((Y.take k).length:Int)) fun z102=>
       if (decide (0≤z102)) then  some (.nx (z102 != (k80:Int))) else  some (.nx false)) fun s101=>
      if s101 then
       some (.go ())
      else
       xK (qE (Y.take k)) fun z112=>
       xK (ap z112 ([(k80:Int)])) fun z119=>
       xK (vU (l05Find.mk u y 0 ([]) 0) z119) fun z123=>
       if (!z123) then
        some (.go ())
       else
        xK (kB M u y (Y.take K++List.replicate (Y.length - K) (-1)) z119) fun z133=>
        if z133.2 then
         some (.ret (z133.1,true))
        else
         some (.go ())) (fun(a:Nat)=>if Y[k]=(a:Int) then some (o,true) else none) (fun a _ _=>by
      simp only;rw[hl,zO htold,bnd_s,if_pos (by simp;exact hx.1),thn_nx]
      by_cases e:Y[k]=(a:Int)
      · have e1:(Y[k] != (a:Int))=false:=by simpa using e
        rw[e1,if_neg (by simp),if_pos e,← e]
        unfold qE
        rw[zD (by simp only[List.length_nil,hl];omega),bnd_s,bnd_s,zD (by simp only[List.length_append,List.length_cons,List.length_nil,hl];omega),bnd_s,List.nil_append,enext]
        have hl2:(Y.take (k+1)).length=k+1:=by rw[List.length_take];omega
        rw[xEz K' hu h (by rw[hl2];omega),bnd_s,hYs (k+1) (by omega) (by omega),if_neg (by simp),ih,bnd_s]
        rfl
      · have e1:(Y[k] != (a:Int))=true:=by simpa using e
        rw[e1,if_pos rfl,if_neg e]
        rfl)
    rw[hq,xUy (a0:=Y[k].toNat) (by omega) (fun a=>Y[k]=(a:Int)) (by omega)]
    rfl
theorem xOd {S:List Int}:∀ {k n:Nat},n<vX S k→∃ x,x<k∧cZ S x=true∧vX S x=n
  | 0,n,h=>by unfold vX at h;simp at h
  | k+1,n,h=>by
    rw[gG] at h
    by_cases h1:n<vX S k
    · obtain⟨x,h2,h3⟩:=xOd h1
      exact⟨x,by omega,h3⟩
    · by_cases h2:cZ S k=true
      · rw[if_pos h2] at h
        exact⟨k,by omega,h2,by omega⟩
      · rw[if_neg h2] at h
        omega
theorem xPt {S:List Int} (h:Rep S) {xv n:Nat} (hx:xv≤S.length):((n:Nat):Int)∈(vV S).take xv↔n<vX S xv:=by
  constructor
  · intro hm
    obtain⟨v,hv⟩:=List.mem_iff_getElem?.1 hm;rw[List.getElem?_take] at hv
    split at hv
    · rename_i hvx
      have hvl:v<S.length:=by omega
      rw[mX hvl] at hv;obtain⟨h0,h1,h2⟩:=xAj h hvl;have h3:=gG S S[v].toNat;rw[if_pos h2] at h3;have h4:=mK S (a:=S[v].toNat+1) (b:=xv) (by omega);have:=Option.some.inj hv
      omega
    · cases hv
  · intro hn
    obtain⟨x,h1,h2,h3⟩:=xOd hn
    have hxl:x<S.length:=by omega
    have e:S[x]=(x:Int):=by
      unfold cZ at h2
      rw[List.getD_eq_getElem?_getD,List.getElem?_eq_getElem hxl] at h2
      simpa using h2
    refine List.mem_iff_getElem?.2 ⟨x,?_⟩;rw[List.getElem?_take,if_pos h1,mX hxl,e,Int.toNat_natCast,h3]
def mT (S W:List Int) (xv j:Nat):List Int:=(List.range (vX S S.length)).map fun(n:Nat)=>if (n:Int)∈((vV S).take xv).take j then (mF S W).getD n 0 else -1
theorem xAh {S W:List Int} {xv j n:Nat} (h:n<vX S S.length):(mT S W xv j)[n]?=some (if (n:Int)∈((vV S).take xv).take j then (mF S W).getD n 0 else -1):=by
  unfold mT
  rw[List.getElem?_map,List.getElem?_range h]
  rfl
theorem xUg {S W:List Int} (h:Rep S) (hW:∀ v,v<S.length→W.getD (S.getD v 0).toNat 0=W.getD v 0) {xv k:Nat} (hx:xv≤S.length) (hk:k<xv):((vV S).take xv)[k]?=some (vX S (S.getD k 0).toNat:Int)∧vX S (S.getD k 0).toNat<vX S S.length∧(mF S W).getD (vX S (S.getD k 0).toNat) 0=W.getD k 0∧(mT S W xv k).set (vX S (S.getD k 0).toNat) (W.getD k 0)=mT S W xv (k+1):=by
  have hkl:k<S.length:=by omega
  have e0:S.getD k 0=S[k]:=kA (List.getElem?_eq_getElem hkl);obtain⟨h0,h1,h2⟩:=xAj h hkl
  have hp:((vV S).take xv)[k]?=some (vX S (S.getD k 0).toNat:Int):=by rw[List.getElem?_take,if_pos hk,mX hkl,e0]
  have hc:vX S (S.getD k 0).toNat<vX S S.length:=by
    rw[e0];have h3:=gG S S[k].toNat;rw[if_pos h2] at h3;have h4:=mK S (a:=S[k].toNat+1) (b:=S.length) (by omega)
    omega
  have hy:(mF S W).getD (vX S (S.getD k 0).toNat) 0=W.getD k 0:=by
    have:=xIr h hW hkl;rw[kA (mX hkl),Int.toNat_natCast,← e0] at this;exact this
  refine⟨hp,hc,hy,?_⟩
  apply List.ext_getElem?
  intro n
  by_cases hn:n<vX S S.length
  · rw[xAh hn]
    have emem:(n:Int)∈((vV S).take xv).take (k+1)↔(n:Int)∈((vV S).take xv).take k∨n=vX S (S.getD k 0).toNat:=by
      rw[List.take_add_one,List.mem_append,hp];simp only[Option.toList_some,List.mem_singleton]
      constructor
      · rintro (h | h)
        · exact .inl h
        · exact .inr (by omega)
      · rintro (h | h)
        · exact .inl h
        · exact .inr (by omega)
    by_cases en:n=vX S (S.getD k 0).toNat
    · rw[if_pos (emem.2 (.inr en)),← en,List.getElem?_set_self (by unfold mT;simpa using hn)]
      rw[← en] at hy;rw[hy]
    · rw[List.getElem?_set_ne (fun e=>en e.symm),xAh hn]
      by_cases hm:(n:Int)∈((vV S).take xv).take k
      · rw[if_pos hm,if_pos (emem.2 (.inl hm))]
      · rw[if_neg hm,if_neg (fun e=>(emem.1 e).elim hm en)]
  · rw[List.getElem?_eq_none (by unfold mT;simp;omega),List.getElem?_eq_none (by unfold mT;simp;omega)]
theorem xBv {ρ ρ':Type} {e6:ρ'} {S W vals:List Int} (h:Rep S) (hW:∀ v,v<S.length→W.getD (S.getD v 0).toNat 0=W.getD v 0) {xv:Nat} (hx:xv≤S.length) (hv:∀ k,k<xv→vals[k]?=some (W.getD k 0)) (hY:∀ n,0≤(mF S W).getD n 0):∀ (m k:Nat),k+m=xv →
    oM (σ:=(List Int)) (ρ:=ρ) (fun(k169:Nat) (x171:Int) (s163:(List Int))=>
       xK (ix vals (k169:Int)) fun z179=>
       xK (ix s163 x171) fun z184=>
       some (.go (s163.set (x171).toNat z179))) (((vV S).take xv).drop k) k (mT S W xv k)=some (.nx (mT S W xv xv)) ∧
    oM (σ:=(List Int)) (ρ:=ρ') (fun(k169:Nat) (x171:Int) (s163:(List Int))=>
       vC (σ:=Bool) (
        xK (ix s163 x171) fun z196=>
        if (decide (0≤z196)) then  xK (ix vals (k169:Int)) fun z205=>
         some (.nx (z196 != z205)) else  some (.nx false)) fun s195=>
       if s195 then
        some (.ret e6)
       else
        xK (ix vals (k169:Int)) fun z212=>
        xK (ix s163 x171) fun z217=>
        some (.go (s163.set (x171).toNat z212))) (((vV S).take xv).drop k) k (mT S W xv k)=some (.nx (mT S W xv xv))
  | 0,k,hk=>by
    have hl:((vV S).take xv).length=xv:=by rw[List.length_take];unfold vV;rw[List.length_map];omega
    rw[List.drop_of_length_le (by omega)]
    obtain rfl:k=xv:=by omega
    exact⟨rfl,rfl⟩
  | m+1,k,hk=>by
    obtain⟨h1,h2,h3,h4⟩:=xUg h hW hx (show k<xv by omega);obtain⟨i1,i2⟩:=xBv (ρ:=ρ) (e6:=e6) h hW hx hv hY m (k+1) (by omega)
    have hd:((vV S).take xv).drop k=(vX S (S.getD k 0).toNat:Int)::((vV S).take xv).drop (k+1):=by
      obtain⟨hlt,he⟩:=List.getElem?_eq_some_iff.1 h1;rw[List.drop_eq_getElem_cons hlt,he]
    have hvk:=zO (hv k (by omega));have hs:=zO (xAh (W:=W) (xv:=xv) (j:=k) h2);rw[hd]
    constructor
    · rw[qV (s':=mT S W xv (k+1)) (by rw[hvk,bnd_s,hs,bnd_s,Int.toNat_natCast,h4])]
      exact i1
    · rw[qV (s':=mT S W xv (k+1)) (by
        rw[hs,bnd_s]
        by_cases hm:(vX S (S.getD k 0).toNat:Int)∈((vV S).take xv).take k
        · rw[if_pos hm,h3]
          have h0:=hY (vX S (S.getD k 0).toNat);rw[h3] at h0;rw[if_pos (by simpa using h0),hvk,bnd_s]
          have e:(W.getD k 0 != W.getD k 0)=false:=by simp
          rw[e,thn_nx,if_neg (by simp),bnd_s,bnd_s,Int.toNat_natCast,h4]
        · rw[if_neg hm,if_neg (by decide),thn_nx,if_neg (by simp),hvk,bnd_s,bnd_s,Int.toNat_natCast,h4])]
      exact i2
theorem xBd (S W:List Int):(mF S W).length=vX S S.length:=by unfold mF;rw[List.length_map,xMc]
theorem xLk {S W:List Int} (h:Rep S) {xv:Nat} (hx:xv≤S.length):mT S W xv xv=(mF S W).take (vX S xv)++List.replicate ((mF S W).length - vX S xv) (-1):=by
  have hK:=mK S hx
  apply List.ext_getElem?
  intro n;rw[xBd]
  have hl:((mF S W).take (vX S xv)).length=vX S xv:=by rw[List.length_take,xBd];omega
  by_cases hn:n<vX S S.length
  · rw[xAh hn,List.take_take,Nat.min_self]
    by_cases h2:n<vX S xv
    · rw[if_pos ((xPt h hx).2 h2),List.getElem?_append_left (by omega),List.getElem?_take,if_pos h2,List.getD_eq_getElem?_getD,List.getElem?_eq_getElem (by rw[xBd];exact hn)]
      rfl
    · rw[if_neg (fun e=>h2 ((xPt h hx).1 e)),List.getElem?_append_right (by omega),hl,List.getElem?_replicate,if_pos (by omega)]
  · rw[List.getElem?_eq_none (by unfold mT;simp;omega),List.getElem?_eq_none (by rw[List.length_append,hl,List.length_replicate];omega)]
theorem xFn (S W:List Int) (xv:Nat):mT S W xv 0=List.replicate (vX S S.length) (-1):=by
  unfold mT
  apply List.ext_getElem?
  intro n
  by_cases hn:n<vX S S.length
  · rw[List.getElem?_map,List.getElem?_range hn,List.getElem?_replicate,if_pos hn,Option.map_some,List.take_zero,if_neg (List.not_mem_nil)]
  · rw[List.getElem?_eq_none (by simp;omega),List.getElem?_eq_none (by simp;omega)]
theorem xEt {ρ : Type} : ∀ (m k : Nat) (s : List Int), s.length + m ≤ 1000 → aY (σ := (List Int)) (ρ := ρ) (fun (k77 : Nat) (s71 : (List Int)) =>
       xK (ap s71 ([(-1)])) fun z85=>
       some (.go z85)) m k s=some (.nx (s++List.replicate m (-1)))
  | 0,k,s,_=>by simp [aY]
  | m+1,k,s,h=>by
    rw[fL (s':=s++[-1]) (by rw[zD (by simp only[List.length_cons,List.length_nil];omega),bnd_s]),xEt m (k+1) _ (by rw[List.length_append,List.length_singleton];omega),List.replicate_succ,List.append_assoc]
    rfl
theorem xGb {ρ:Type} {A:List Int} (m:Nat) (hA:∀ x∈A,0≤x) (hl:A.length+m≤1000):∀ (d N:Nat),d≤A.length→d+1≤N →
    whl (σ:=(List Int)) (ρ:=ρ) (fun(s269:(List Int))=>
       vC (σ:=Bool) (
        if (decide ((s269.length:Int)<((A++List.replicate m (-1)).length:Int))) then  xK (ix (A++List.replicate m (-1)) (s269.length:Int)) fun z298=>
         some (.nx (decide (0≤z298))) else  some (.nx false)) fun s293=>
       if s293 then
        xK (ix (A++List.replicate m (-1)) (s269.length:Int)) fun z305=>
        xK (ap s269 ([z305])) fun z312=>
        some (.go z312)
       else
        some (.brk s269)) N (A.take (A.length - d))=some (.nx A)
  | 0,N,_,hN=>by
    obtain⟨M,rfl⟩:∃ M,N=M+1:=⟨N - 1,by omega⟩
    rw[Nat.sub_zero,List.take_of_length_le (Nat.le_refl _),wB (s':=A) (by
      cases m with
      | zero=>rw[if_neg (by simp),thn_nx,if_neg (by simp)]
      | succ m=>
        rw[if_pos (by simp;omega),zO (x:=(-1)) (by rw[List.getElem?_append_right (Nat.le_refl _),Nat.sub_self];rfl),bnd_s,show decide ((0:Int)≤ -1)=false by decide,thn_nx,if_neg (by simp)])]
  | d+1,N,hd,hN=>by
    obtain⟨M,rfl⟩:∃ M,N=M+1:=⟨N - 1,by omega⟩;generalize hk:A.length - (d+1)=k
    have hkl:k<A.length:=by omega
    have hlk:(A.take k).length=k:=by rw[List.length_take];omega
    have hix:ix (A++List.replicate m (-1)) ((A.take k).length:Int)=some A[k]:=by rw[hlk];exact zO (by rw[List.getElem?_append_left hkl,List.getElem?_eq_getElem hkl])
    have ih:=xGb (ρ:=ρ) m hA hl d M (by omega) (by omega);rw[show A.length - d=k+1 by omega] at ih
    rw[uH (s':=A.take (k+1)) (by
      rw[if_pos (by rw[hlk];simp;omega),hix,bnd_s,thn_nx,if_pos (by simpa using hA _ (List.getElem_mem hkl)),bnd_s,zD (by simp only[hlk,List.length_cons,List.length_nil];omega),bnd_s,List.take_add_one,List.getElem?_eq_getElem hkl]
      rfl)]
    exact ih
end Go.Proofs.YtlommebgedmjdaaGreatDoor
namespace Go.Proofs.YtlommebgedmjdaaGreatDoor
set_option linter.unusedVariables false
set_option linter.unusedSimpArgs false
set_option maxRecDepth 100000
theorem xGl {ρ:Type}:∀ (l:List Con) (k:Nat) (s:List Atom),s.length+l.length≤1000→oM (σ:=(List Atom)) (ρ:=ρ) (fun(k68:Nat) (x70:Con) (s62:(List Atom))=>
   xK (ap s62 ([(Atom.mk x70.rel x70.scope)])) fun z84=>
   some (.go z84)) l k s=some (.nx (s++l.map fun c=>⟨c.rel,c.scope⟩))
  | [],k,s,_=>by simp [oM]
  | c::l,k,s,h=>by
    rw[List.length_cons] at h;rw[qV (s':=s++[⟨c.rel,c.scope⟩]) (by rw[zD (by simp only[List.length_cons,List.length_nil];omega),bnd_s]),xGl l (k+1) _ (by rw[List.length_append,List.length_singleton];omega),List.map_cons,List.append_assoc]
    rfl
theorem xIx {T:Nat} {u:Template} {y:Instance} {K:Int} (hu:TV T u) (hf:FX u (fY K y)):fF u y=some (xGd u (fY K y)):=by
  unfold fF
  have hn:=hf.n
  have hl:(fY K y).atoms.length=y.cons.length:=by unfold fY;rw[List.length_map]
  rw[xGl y.cons 0 [] (by simp only[List.length_nil];omega),thn_nx,List.nil_append];have h1:bR (Template.mk u.size u.rels) y.vars (y.cons.map fun c=>⟨c.rel,c.scope⟩)=some (xGd u (fY K y)):=xDf hu hf;rw[h1,bnd_s]
def FOk (t u:Template) (g:Gadgets) (x:Instance) (vs:List Int) (r:List Int×Int):Prop:=mS t u g x=true→lD t.size vs x.vars=true→(∀ c∈x.cons,mE t vs c=true)→(zZ g x).2.2=0 →
  r.2=0∧(r.1.length:Int)=(zZ g x).1.vars∧Rng u.size.toNat r.1∧(∀ c∈(zZ g x).1.cons,mE u r.1 c=true)∧aL r.1 (zZ g x).2.1=vs
theorem xFu {N:Nat} {t u:Template} {g:Gadgets} {x:Instance} {vs:List Int} (ht:aI t) (hu:aI u) (hN:1100≤N):∃ r,cG N t u g x vs=some r∧cJ N t u g x vs=some r∧r.1.length≤10∧FOk t u g x vs r:=by
  have a1:aP N (Template.mk t.size t.rels) (Template.mk u.size u.rels) (Gadgets.mk g.formulas) (Instance.mk x.vars x.cons)=some (mS t u g x):=(wA ht hu hN).1;have a2:kJ N (Template.mk t.size t.rels) (Template.mk u.size u.rels) (Gadgets.mk g.formulas) (Instance.mk x.vars x.cons)=some (if mS t u g x then 0 else 1):=(wA ht hu hN).2
  unfold cG cJ
  rw[a1,a2,bnd_s,bnd_s]
  by_cases h:mS t u g x=true
  · have h':=h
    unfold mS at h'
    rw[Bool.and_eq_true] at h';have hV:=h'.1
    unfold lR at hV
    rw[Bool.and_eq_true] at hV;have hG:=tA ht hu hV.1
    have hval:∀ j f,g.formulas[j]?=some f→(dN u f t.size.toNat f.free.toNat).tuples=(t.rels.getD j default).tuples:=fun j f hj=>by
      have:=xGk (Option.isNone_iff_eq_none.1 hV.2) j f hj;rw[Nat.zero_add] at this;exact(rO hG hj).1 this
    obtain⟨i1,i2,i3⟩:=xJo h'.2;obtain⟨p1,p2,p3⟩:=jG hG i1 i2 i3;obtain⟨_,_,a3,a4,a5,a6⟩:=sT (ρ:=Instance×(List Int)×Int) (ρ':=Instance×(List Int)×Int) hG (n:=x.vars) x.cons 0 x.vars [] i3 (Int.le_refl _) (by omega) (by omega) (by simp only[List.length_nil];omega) (fun b hb=>nomatch hb);have eA:x.cons.foldl (fJ g) (x.vars,[])=kC g x:=rfl;rw[eA] at a3 a4 a5 a6
    have a4':x.vars≤(kC g x).1:=by omega
    obtain⟨q1,q2⟩:=xEg hG i3 (by omega) p3;have p1':aN (Gadgets.mk g.formulas) (Instance.mk x.vars x.cons)=some (zZ g x):=p1;have p2':bO (Gadgets.mk g.formulas) (Instance.mk x.vars x.cons)=some (zZ g x):=p2
    have hs:okS t.size=true:=by have:=hG.tV.s;have:=hG.tV.t;unfold okS;simp;omega
    have e0:((0:Int) != 0)=false:=rfl;rw[h,p1',p2',rR hs,pA hs];simp only[Bool.not_true,Bool.false_eq_true,if_false,if_true,e0,bnd_s]
    by_cases hb:lD t.size vs x.vars=true
    · have hb':=hb
      unfold lD at hb'
      rw[Bool.and_eq_true] at hb'
      have hbl:(vs.length:Int)=x.vars:=by simpa using hb'.1
      have hsz:t.size=u.size:=by rw[hG.tV.s,hG.uV.s]
      have huN:((u.size.toNat:Nat):Int)=u.size:=by rw[hG.uV.s];simp
      have hvr:Rng u.size.toNat vs:=fun z hz=>by
        have:=List.all_eq_true.1 hb'.2 z hz
        unfold okV at this
        simp at this
        omega
      rw[hb];simp only[Bool.not_true,Bool.false_eq_true,if_false]
      have hCW:∀ c∈x.cons,CW t vs.length c:=fun c hc=>by
        have h1:=i3 c hc;obtain⟨_,r,_,_,hr,ha⟩:=id h1;obtain⟨n,e,_,hn4,_⟩:=hG.tV.r r hr;exact⟨by rw[hbl];exact h1,by omega⟩
      obtain⟨i,j,f1,f2,f3,f4⟩:=uT (N:=N) (y:=x) hG.tV hCW hN;have f1':aU (Template.mk t.size t.rels) (Instance.mk x.vars x.cons) vs=some i:=f1;have f2':dZ N (Template.mk t.size t.rels) (Instance.mk x.vars x.cons) vs=some j:=f2;rw[f1',f2',bnd_s,bnd_s,f3,f4]
      by_cases hfail:(x.cons.any fun c=>!mE t vs c)=true
      · rw[hfail]
        exact⟨([],4),rfl,rfl,Nat.zero_le _,fun _ _ hc _=>by
          obtain⟨c,hm,hn⟩:=List.any_eq_true.1 hfail;rw[hc c hm] at hn
          cases hn⟩
      · have hf':(x.cons.any fun c=>!mE t vs c)=false:=by simpa using hfail
        have hcon:∀ c∈x.cons,mE t vs c=true:=fun c hc=>by
          have:=List.any_eq_false.1 hf' c hc
          simpa using this
        rw[hf'];simp only[Bool.false_eq_true,if_false]
        by_cases hc:((zZ g x).2.2 != 0)=true
        · rw[hc]
          exact⟨([],(zZ g x).2.2),rfl,rfl,Nat.zero_le _,fun _ _ _ h0=>by rw[h0] at hc;cases hc⟩
        · have hc':((zZ g x).2.2 != 0)=false:=by simpa using hc
          have hz:(zZ g x).2.2=0:=by simpa using hc'
          rw[hc'];simp only[Bool.false_eq_true,if_false];obtain⟨W,w1,w2,w3,w4⟩:=xXp hG hval hvr x.cons x.vars [] vs (fun c hc=>by rw[hbl];exact i3 c hc) hcon hbl (List.take_of_length_le (Nat.le_refl _)) hvr (fun b hb=>nomatch hb) (fun b hb=>nomatch hb);rw[eA] at w1 w4
          have hVn:(((kC g x).1.toNat:Nat):Int)=(kC g x).1:=by omega
          have hA':AB (((kC g x).1.toNat:Nat):Int) (kC g x).2:=by rw[hVn];exact p3
          have hrep:Rep (qO g x):=sH _ _ (uJ _) (zG _ _) hA'
          have hSl:(qO g x).length=(kC g x).1.toNat:=by
            have:∀ (l:List Atom) (s:List Int),(l.foldl zN s).length=s.length:=by
              intro l
              induction l with
              | nil=>intro s;rfl
              | cons a l ih=>intro s;rw[List.foldl_cons,ih,cF]
            unfold qO
            rw[this,zG]
          have hW:∀ v,v<(qO g x).length→W.getD ((qO g x).getD v 0).toNat 0=W.getD v 0:=by
            rw[hSl];exact xCx (u:=u) (kC g x).2 _ w4 hA' (zG _ _) (fun v hv=>by rw[kA (fB hv)];congr 1;omega)
          have hRe:zZ g x=(⟨(vX (qO g x) (qO g x).length:Int),gO (vV (qO g x)) (kC g x).2⟩,(vV (qO g x)).take x.vars.toNat,0)∧(vX (qO g x) (qO g x).length:Int)≤10∧(gO (vV (qO g x)) (kC g x).2).length≤24:=by
            unfold zZ at hz ⊢
            split at hz
            · cases hz
            · rename_i hn
              rw[if_neg hn];simp only[Bool.or_eq_true,decide_eq_true_eq,not_or] at hn;exact⟨rfl,by omega,by omega⟩
          obtain⟨eR,c10,c24⟩:=hRe;rw[eR] at q1 q2 ⊢;simp only at q1 q2 ⊢;generalize hS:qO g x=S at *;generalize hn:vV S=n at *;generalize hyc:gO n (kC g x).2=yc at *;generalize hC:vX S S.length=C at *
          have hxS:x.vars.toNat≤S.length:=by omega
          generalize hxv:x.vars.toNat=xv at *;generalize hK:vX S xv=K at *
          have hKC:K≤C:=by rw[← hK,← hC];exact mK S hxS
          have hfix0:cZ S 0=true:=by
            have h0:0<S.length:=by omega
            obtain⟨r0,r1,r2⟩:=xAj hrep h0
            have:S[0].toNat=0:=by omega
            rw[this] at r2;exact r2
          have hK1:1≤K:=by
            have h2:=gG S 0;rw[if_pos hfix0] at h2;have h3:=mK S (a:=1) (b:=xv) (by omega);rw[hK] at h3;rw[show vX S 0=0 from rfl] at h2;rw[Nat.zero_add] at h2
            omega
          have hYl:(mF S W).length=C:=by rw[xBd,hC]
          have hWr:∀ v,v<S.length→0≤W.getD v 0∧W.getD v 0<(u.size.toNat:Int):=fun v hv=>by
            rw[kA (List.getElem?_eq_getElem (show v<W.length by omega))];exact w3 _ (List.getElem_mem _)
          have hYr:Rng u.size.toNat (mF S W):=fun z hz=>by
            unfold mF at hz
            obtain⟨a,ha,rfl⟩:=List.mem_map.1 hz
            unfold wO at ha
            obtain⟨v,hv,rfl⟩:=List.mem_map.1 ha;have:=List.mem_range.1 (List.mem_filter.1 hv).1;rw[Int.toNat_natCast];exact hWr v this
          have hY0:∀ m,0≤(mF S W).getD m 0:=fun m=>by
            by_cases hm:m<(mF S W).length
            · rw[kA (List.getElem?_eq_getElem hm)]
              exact(hYr _ (List.getElem_mem hm)).1
            · rw[List.getD_eq_getElem?_getD,List.getElem?_eq_none (by omega)]
              exact Int.le_refl _
          generalize hy:(⟨(C:Int),yc⟩:Instance)=y at *
          have hyv:y.vars=(C:Int):=by rw[← hy]
          have hycons:y.cons=yc:=by rw[← hy]
          have q1':∀ c∈y.cons,CW u y.vars c:=by rw[hycons,hyv];exact q1
          have hFX:FX u (fY K y):=oCk q1' ⟨by omega,by omega⟩ (by omega) (by rw[hycons];exact c24)
          have hatoms:∀ a∈(fY K y).atoms,cY u a (mF S W)=true:=fun a ha=>by
            obtain⟨c,hc,rfl⟩:=List.mem_map.1 ha;rw[xAt (q1' c hc)];rw[hycons,← hyc] at hc;obtain⟨b,hb,rfl⟩:=List.mem_map.1 hc;obtain⟨hb,hne⟩:=List.mem_filter.1 hb
            have hne':b.rel ≠ -1:=by simpa using hne
            have h6:=w4 b hb
            have e:aL (mF S W) (aL n b.args)=aL W b.args:=by
              unfold aL
              rw[List.map_map]
              apply List.map_congr_left
              intro v hv;have hv2:=p3 b hb |>.2.2 v hv;have:=xIr hrep hW (v:=v.toNat) (by omega);rw[hn] at this;exact this
            unfold mE
            rw[e]
            unfold cY at h6
            rw[if_neg hne'] at h6;exact h6
          have hYs:∀ m,1≤m→m≤(mF S W).length→vA u (fY K y) ((mF S W).take m)=true:=fun m h1 h2=>xJc hG.uV hFX.a hatoms h1 h2;have hfind:=yU hYs hYr (C - K) K (by omega);obtain⟨o,ho⟩:=Option.isSome_iff_exists.1 hfind;obtain⟨o1,_⟩:=xCk _ _ _ ho
          have htl:((mF S W).take K).length=K:=by rw[List.length_take];omega
          rw[htl] at o1
          have hw:wL u (fY K y) ((mF S W).take K)=some o:=by
            unfold wL
            rw[if_pos,htl]
            · have:(fY K y).vars.toNat=C:=by show y.vars.toNat=C;omega
              rw[this];exact ho
            · unfold xTe
              rw[List.all_eq_true];intro m hm;have:=List.mem_range'_1.1 hm;rw[htl] at this;rw[List.take_take,Nat.min_eq_left (by omega)];exact hYs m (by omega) (by omega)
          refine⟨(o,0),?_,?_,by show o.length≤10;omega,fun _ _ _ _=>?_⟩
          · rw[Int.toNat_natCast,xEt C 0 [] (by simp only[List.length_nil];omega),thn_nx,List.nil_append]
            have tl:=(xBv (ρ:=(List Int)×Int) (ρ':=(List Int)×Int) (e6:=([],6)) hrep hW hxS (vals:=vs) (fun k hk=>by
              have:=congrArg (fun l=>l[k]?) w2;simp only[List.getElem?_take] at this;rw[if_pos (by omega)] at this
              rw[← this,List.getElem?_eq_getElem (by omega),kA (List.getElem?_eq_getElem _)]) hY0 xv 0 (by omega)).1
            rw[xFn,List.drop_zero,hn,hC,xLk hrep hxS,hYl,hK] at tl;rw[tl,thn_nx];have hfl:=xOu (K:=K) hG.uV q1' (by omega) (by omega) (by omega) hYr K hYs (o:=o) (by rw[hYl];exact ho) K N (Nat.le_refl _) (by omega);rw[Nat.sub_self,List.take_zero,hYl] at hfl;have hfl':kB N (Template.mk u.size u.rels) y ((mF S W).take K++List.replicate (C - K) (-1)) []=some (o,true):=hfl;rw[hfl',bnd_s]
          · have hrp:vZ [-1] (C:Int)=some (List.replicate C (-1)):=by
              unfold vZ
              rw[if_pos ⟨rfl,by omega,by omega⟩,Int.toNat_natCast]
              rfl
            rw[hrp,bnd_s]
            have tl:=(xBv (ρ:=(List Int)×Int) (ρ':=(List Int)×Int) (e6:=([],6)) hrep hW hxS (vals:=vs) (fun k hk=>by
              have:=congrArg (fun l=>l[k]?) w2;simp only[List.getElem?_take] at this;rw[if_pos (by omega)] at this
              rw[← this,List.getElem?_eq_getElem (by omega),kA (List.getElem?_eq_getElem _)]) hY0 xv 0 (by omega)).2
            rw[xFn,List.drop_zero,hn,hC,xLk hrep hxS,hYl,hK] at tl;rw[tl,thn_nx];have hbeg:=xGb (ρ:=(List Int)×Int) (A:=(mF S W).take K) (C - K) (fun z hz=>(hYr z (List.mem_of_mem_take hz)).1) (by omega) K N (by omega) (by omega);rw[htl,Nat.sub_self,List.take_zero] at hbeg;rw[hbeg,thn_nx];have hsf:fF (Template.mk u.size u.rels) y=some (xGd u (fY K y)):=xIx hG.uV hFX;rw[hsf,bnd_s,xKo hG.uV hFX (by rw[htl];rfl) hN,bnd_s];rw[hw]
            rfl
          · obtain⟨z1,z2,z3,z4⟩:=xJf hG.uV hFX.a (by rw[htl];show K≤y.vars.toNat;omega) (fun z hz=>hYr z (List.mem_of_mem_take hz)) hw
            rw[htl] at z2;rw[eR];refine⟨rfl,by show(o.length:Int)=y.vars;omega,z4,fun c hc=>?_,?_⟩
            · rw[← xAt (q1' c hc)]
              exact z3 _ (List.mem_map.2 ⟨c,hc,rfl⟩)
            · show aL o (n.take xv)=vs
              have hnl:n.length=S.length:=by rw[← hn];unfold vV;rw[List.length_map]
              apply List.ext_getElem?
              intro v
              by_cases hv:v<xv
              · have hvS:v<S.length:=by omega
                obtain⟨r0,r1,r2⟩:=xAj hrep hvS
                have hm:vX S S[v].toNat<K:=by
                  have h2:=gG S S[v].toNat;rw[if_pos r2] at h2;have h3:=mK S (a:=S[v].toNat+1) (b:=xv) (by omega);rw[hK] at h3
                  omega
                have hnv:=mX hvS;rw[hn] at hnv;have hy2:=xIr hrep hW hvS;rw[hn,kA hnv,Int.toNat_natCast] at hy2
                unfold aL
                rw[List.getElem?_map,List.getElem?_take,if_pos hv,hnv,Option.map_some,Int.toNat_natCast]
                have e1:o.getD (vX S S[v].toNat) 0=(o.take K).getD (vX S S[v].toNat) 0:=by
                  rw[List.getD_eq_getElem?_getD,List.getD_eq_getElem?_getD,List.getElem?_take,if_pos hm]
                have e2:(mF S W).getD (vX S S[v].toNat) 0=((mF S W).take K).getD (vX S S[v].toNat) 0:=by
                  rw[List.getD_eq_getElem?_getD,List.getD_eq_getElem?_getD,List.getElem?_take,if_pos hm]
                rw[e1,z2,← e2,hy2];have e3:=congrArg (fun l=>l[v]?) w2;simp only[List.getElem?_take] at e3;rw[if_pos (by omega)] at e3;rw[← e3,List.getElem?_eq_getElem (by omega),kA (List.getElem?_eq_getElem _)]
              · rw[List.getElem?_eq_none (by unfold aL;rw[List.length_map,List.length_take];omega),List.getElem?_eq_none (by omega)]
    · have hb':lD t.size vs x.vars=false:=by simpa using hb
      rw[hb'];exact⟨([],2),rfl,rfl,Nat.zero_le _,fun _ h2 _ _=>absurd h2 hb⟩
  · have h':mS t u g x=false:=by simpa using h
    rw[h'];exact⟨([],1),rfl,rfl,Nat.zero_le _,fun h1 _ _ _=>absurd h1 h⟩
end Go.Proofs.YtlommebgedmjdaaGreatDoor
