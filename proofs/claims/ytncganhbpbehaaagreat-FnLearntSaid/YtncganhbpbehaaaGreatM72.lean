import Derived.Test.YtncganhbpbehaaaGreatMU
import Derived.Test.YtncganhbpbehaaaGreatM1
namespace Go.Proofs.YtncganhbpbehaaaGreat
set_option linter.unusedVariables false
set_option linter.unusedSimpArgs false
theorem own_eq (l:List Int) (h:l.length≤1048576):cV l=some l:=by
  unfold cV
  rw[zX (by simp only[List.length_nil];omega),bnd_s];rfl
theorem rF (l:List Int) (h:l.length≤1048576):vA l=some l:=by
  unfold vA
  rw[zX (by simp only[List.length_nil];omega),bnd_s];rfl
theorem uN (l:List Int) (a:Int):dA l a=some (l.any (· == a)):=by
  unfold dA
  rw[dV (fun _ x=>if x==a then some true else none) (fun j x hj=>by by_cases h:(x==a)=true<;>simp [h,rS]),mM]
  cases h:l.any (· == a)<;>rfl
theorem pT (l:List Int) (a:Int):zB l a=some (l.any (· == a)):=by
  unfold zB
  obtain⟨i,h1,h2⟩:=jL l (fun x=>a==x) (fun x=>some (a==x)) (fun _ _=>rfl);have h3:aZ l a=some i:=h1;rw[h3,bnd_s,h2]
  congr 2
  funext x
  exact Bool.beq_comm
theorem uH {ρ:Type} {b:Nat→Int→List Int→Option (Ctl (List Int) ρ)} (p:Int→Bool) (hb:∀ k x s,s.length≤2097152→b k x s=some (.go (if p x then s++[x] else s))):∀ (l:List Int) (k:Nat) (s:List Int),s.length+l.length≤2097152→qT b l k s=some (.nx (s++l.filter p))
  | [],_,s,_=>by simp
  | x::l,k,s,h=>by
    rw[List.length_cons] at h;rw[kB (hb k x s (by omega))]
    cases hp:p x with
    | true=>rw[if_pos rfl,uH p hb l _ _ (by simp only[List.length_append,List.length_singleton];omega),List.filter_cons,hp,List.append_assoc];rfl
    | false=>rw[if_neg (by simp),uH p hb l _ _ (by omega),List.filter_cons,hp];rfl
theorem sF (l:List Int) (a:Int) (h:l.length≤1048576):aN l a=some (l.filter (· != a)):=by
  unfold aN
  rw[uH (fun x=>x != a) (fun k x s hs=>by
    by_cases hx:(x != a)=true
    · rw[if_pos hx,if_pos hx,zX (by simp only[List.length_cons,List.length_nil];omega),bnd_s]
    · rw[if_neg hx,if_neg hx]) l 0 [] (by simp only[List.length_nil];omega),thn_nx]
  simp
def xAm (p:Int→Bool):List Int→Nat→Option Nat
  | [],_=>none
  | x::l,k=>if p x then some k else xAm p l (k+1)
theorem xBu (p:Int→Bool):∀ (l:List Int) (k:Nat),(xAm p l k=none∧l.filter (fun x=>!p x)=l)∨∃ i,i<l.length∧xAm p l k=some (k+i)∧(l.take i).filter (fun x=>!p x)=l.take i∧∃ x,l[i]?=some x∧p x=true
  | [],_=>.inl ⟨rfl,rfl⟩
  | x::l,k=>by
    by_cases h:p x=true
    · exact .inr ⟨0,by simp,by simp [xAm,h],rfl,x,rfl,h⟩
    · have h':p x=false:=by simpa using h
      rcases xBu p l (k+1) with ⟨h1,h2⟩ | ⟨i,h1,h2,h3,y,h4,h5⟩
      · exact .inl ⟨by simp [xAm,h',h1],by rw[List.filter_cons];simp [h',h2]⟩
      · refine .inr ⟨i+1,by simp;omega,by simp [xAm,h',h2];omega,?_,y,by simpa using h4,h5⟩
        rw[List.take_succ_cons,List.filter_cons];simp [h',h3]
theorem xFg (p:Int→Bool):∀ (l:List Int) (k:Nat),fnd (fun k x=>if p x then some (k:Int) else none) l k=(xAm p l k).map (fun i=>(i:Int))
  | [],_=>rfl
  | x::l,k=>by
    unfold fnd xAm
    by_cases h:p x=true
    · simp [h]
    · have h':p x=false:=by simpa using h
      simp only[h',Bool.false_eq_true,if_false];exact xFg p l (k+1)
theorem xLi (l:List Int) (p:Int→Bool) (f:Int→Option Bool) (hf:∀ x,f x=some (p x)):vV l f=some (match xAm p l 0 with | some i=>(i:Int) | none=>-1):=by
  have h0:vV l f=zR (qT (σ:=Unit) (ρ:=Int) (fun(k:Nat) (x:Int) (s:Unit)=>match s with | _=>xZ (f x) fun z=>if z then some (.ret (k:Int)) else some (.go ())) l 0 ()) (fun _=>some (-1)):=rfl;rw[h0,dV (fun k x=>if p x then some (k:Int) else none) (fun j x hj=>by simp only[hf,bnd_s];by_cases hv:p x=true<;>simp [hv,rS]),xFg]
  cases xAm p l 0<;>rfl
theorem xBa {l:List Int} {i:Nat} (h:i<l.length) (x:Int):(l.set i x).take (i+1)=l.take i++[x]:=by
  rw[List.take_add_one,List.take_set,List.getElem?_set_self h]
  congr 1
  rw[List.set_eq_of_length_le (by simp;omega)]
theorem xJz {l:List Int} {i j:Nat} (h:i<j) (x:Int):(l.set i x).drop j=l.drop j:=by
  apply List.ext_getElem?
  intro k;rw[List.getElem?_drop,List.getElem?_drop,List.getElem?_set_ne (by omega)]
theorem xLh (p:Int→Bool) (f:Int→Option Bool) (hf:∀ x,f x=some (p x)) (l:List Int) (hl:l.length≤1048576):∀ (N i j:Nat) (m:List Int),l.length - j<N→i<j→j≤l.length→m.length=l.length→m.take i=(l.take j).filter (fun x=>!p x)→m.drop j=l.drop j →
    ∃ (i':Nat) (m':List Int),fA (σ:=Int×Int×(List Int)) (ρ:=(List Int)) (fun(s:Int×Int×(List Int))=>
        match s with
        | (s94,s96,s98)=>
          if (decide (s96<(s98.length:Int))) then
            xZ (ix s98 s96) fun z116=>
            xZ (f z116) fun z124=>
            if (!z124) then
              xZ (ix s98 s94) fun z127=>
              xZ (ck (s94+1)) fun z138=>
              xZ (ck (s96+1)) fun z140=>
              some (.go (z138,z140,(s98.set (s94).toNat z116)))
            else
              xZ (ck (s96+1)) fun z142=>
              some (.go (s94,z142,s98))
          else
            some (.brk (s94,s96,s98))) N ((i:Int),(j:Int),m)=some (.nx ((i':Int),((l.length:Nat):Int),m'))∧i'≤m'.length∧m'.length=l.length∧m'.take i'=l.filter (fun x=>!p x):=by
  intro N
  induction N with
  | zero=>intro i j m h;omega
  | succ N ih=>
    intro i j m hN hij hj hm ht hd
    by_cases hlt:j<l.length
    · have hmj:m[j]?=l[j]?:=by
        have:=congrArg (fun q=>q[0]?) hd
        simpa [List.getElem?_drop] using this
      have hlj:l[j]?=some l[j]:=List.getElem?_eq_getElem hlt;have hx:ix m (j:Int)=some l[j]:=qX (hmj.trans hlj);have hi:ix m (i:Int)=some m[i]:=qX (List.getElem?_eq_getElem (by omega));have hc1:ck ((j:Int)+1)=some (((j+1:Nat)):Int):=kE (by omega) (by omega);have hc2:ck ((i:Int)+1)=some (((i+1:Nat)):Int):=kE (by omega) (by omega)
      have htk:(l.take (j+1)).filter (fun x=>!p x)=(l.take j).filter (fun x=>!p x)++(if p l[j] then [] else [l[j]]):=by
        rw[List.take_add_one,hlj,List.filter_append]
        cases hp:p l[j]<;>simp [hp]
      have hd1:m.drop (j+1)=l.drop (j+1):=by
        have:=congrArg (List.drop 1) hd
        simpa [List.drop_drop] using this
      cases hp:p l[j] with
      | true=>
        obtain⟨i',m',h1,h2⟩:=ih i (j+1) m (by omega) (by omega) (by omega) hm (by rw[htk,hp,ht];simp) hd1;refine⟨i',m',?_,h2⟩;rw[iA (s':=((i:Int),((j+1:Nat):Int),m)) (by simp only[hm];rw[if_pos (by simp;omega),hx,bnd_s,hf,bnd_s,hp,hc1,bnd_s];rfl),h1]
      | false=>
        obtain⟨i',m',h1,h2⟩:=ih (i+1) (j+1) (m.set i l[j]) (by omega) (by omega) (by omega) (by simpa using hm) (by rw[htk,hp,xBa (by omega),ht];simp) (by rw[xJz (by omega),hd1]);refine⟨i',m',?_,h2⟩;rw[iA (s':=(((i+1:Nat):Int),((j+1:Nat):Int),m.set i l[j])) (by simp only[hm];rw[if_pos (by simp;omega),hx,bnd_s,hf,bnd_s,hp,hi];simp only[Bool.not_false,if_true,bnd_s,hc1,hc2,Int.toNat_natCast]),h1]
    · obtain rfl:j=l.length:=by omega
      refine⟨i,m,?_,by omega,hm,by rw[ht,List.take_length]⟩;exact fC (by simp only[hm];rw[if_neg (by simp)])
theorem xAp {N:Nat} (l:List Int) (p:Int→Bool) (f:Int→Option Bool) (hf:∀ x,f x=some (p x)) (hl:l.length≤1048576) (hN:l.length<N):kI N l f=some (l.filter (fun x=>!p x)):=by
  unfold kI
  rw[xLi l p f hf,bnd_s]
  rcases xBu p l 0 with ⟨h1,h2⟩ | ⟨i,h1,h2,h3,x,h4,h5⟩
  · rw[h1,h2];rfl
  · rw[h2,Nat.zero_add]
    simp only;rw[if_neg (by simp<;>omega),show ck ((i:Int)+1)=some (((i+1:Nat)):Int) from kE (by omega) (by omega),bnd_s]
    obtain⟨i',m',g1,g2,g3,g4⟩:=xLh p f hf l hl N i (i+1) l (by omega) (by omega) (by omega) rfl (by
      rw[List.take_add_one,h4,List.filter_append,h3]
      simp [h5]) rfl
    rw[g1,thn_nx];simp only
    have hs1:sl m' (i':Int) (m'.length:Int)=some ((m'.take m'.length).drop i'):=by
      unfold sl;rw[if_pos ⟨by omega,by omega,by omega⟩];simp
    have hs2:sl (m'.take i'++List.replicate (m'.length - i') (0:Int)) 0 (i':Int)=some (m'.take i'):=by
      unfold sl
      rw[if_pos ⟨by omega,by omega,by simp;omega⟩];simp only[Int.toNat_natCast,show(0:Int).toNat=0 from rfl,List.drop_zero];rw[List.take_append_of_le_length (by simp;omega),List.take_take,Nat.min_self]
    rw[hs1,bnd_s];simp only[Int.toNat_natCast];rw[hs2,bnd_s,g4]
theorem sL {N:Nat} (l:List Int) (a:Int) (hl:l.length≤1048576) (hN:l.length<N):aP N l a=some (l.filter (· != a)):=by
  unfold aP
  rw[rF l hl,bnd_s,xAp l (fun x=>x==a) (fun a0=>iP a0 a) (fun x=>rfl) hl hN,bnd_s]
  rfl
theorem yL {ρ:Type} {b:Nat→Unit→Option (Ctl Unit ρ)} (p:Nat→Bool) (r:ρ):∀ (m k:Nat),(∀ j,k≤j→j<k+m→b j ()=some (if p j then .ret r else .go ()))→aS b m k ()=some (if (List.range' k m).any p then .ret r else .nx ())
  | 0,k,_=>rfl
  | m+1,k,h=>by
    have h0:=h k (Nat.le_refl _) (by omega)
    cases hp:p k with
    | true=>rw[hp] at h0;rw[xCy h0,List.range'_succ,List.any_cons,hp];rfl
    | false=>
      rw[hp] at h0;rw[fQ (s':=()) h0,yL p r m (k+1) (fun j h1 h2=>h j (by omega) (by omega)),List.range'_succ,List.any_cons,hp]
      rfl
def agP (sc t:List Int) (k j:Nat):Bool:=(sc.getD k 0==sc.getD j 0) && (t.getD k 0 != t.getD j 0)
def agB (sc t:List Int):Bool:=!((List.range' 0 sc.length).any fun k=>(List.range' 0 k).any (agP sc t k))
theorem uM {α:Type} (g:Nat→Bool):∀ (l:List α) (k:Nat),fnd (fun k _=>if g k then some false else none) l k=if (List.range' k l.length).any g then some false else none
  | [],_=>rfl
  | x::l,k=>by
    unfold fnd
    rw[List.length_cons,List.range'_succ,List.any_cons]
    by_cases h:g k=true
    · simp [h]
    · have h':g k=false:=by simpa using h
      simp only[h',Bool.false_eq_true,if_false,Bool.false_or];exact uM g l (k+1)
theorem xCt {l:List Int} {k:Nat} {x:Int} (h:l[k]?=some x):l.getD k 0=x:=by rw[List.getD_eq_getElem?_getD,h];rfl
theorem jG {l:List Int} {k:Nat} (h:k<l.length):ix l (k:Int)=some (l.getD k 0):=qX (by rw[List.getElem?_eq_getElem h,xCt (List.getElem?_eq_getElem h)])
theorem xId (c:Con) (t:List Int) (h:t.length=c.scope.length):fK c t=some (agB c.scope t):=by
  unfold fK
  rw[dV (fun k _=>if (List.range' 0 k).any (agP c.scope t k) then some false else none) (fun j x hj=>by
    have hjl:j<c.scope.length:=(List.getElem?_eq_some_iff.1 hj).1;rw[Nat.zero_add];simp only[Int.toNat_natCast]
    rw[yL (agP c.scope t j) (.ret false) j 0 (fun q h1 h2=>by
      have hq:q<c.scope.length:=by omega
      rw[jG hq,bnd_s,jG (by omega:q<t.length),jG (by omega:j<t.length)]
      unfold agP
      rw[xCt hj];generalize c.scope.getD q 0=u;generalize t.getD q 0=v;generalize t.getD j 0=z;simp only[bnd_s]
      by_cases h3:u=x
      · by_cases h4:v=z
        · simp [h3,h4]
        · simp [h3,h4,Ne.symm h4]
      · simp [h3,Ne.symm h3])]
    cases (List.range' 0 j).any (agP c.scope t j)<;>rfl),uM]
  unfold agB
  cases (List.range' 0 c.scope.length).any fun k=>(List.range' 0 k).any (agP c.scope t k)<;>rfl
theorem xKg (c:Con) (t:List Int) (h:t.length=c.scope.length):fO c t=some (agB c.scope t):=by
  unfold fO
  rw[dV (fun k _=>if (List.range' 0 k).any (agP c.scope t k) then some false else none) (fun j x hj=>by
    have hjl:j<t.length:=(List.getElem?_eq_some_iff.1 hj).1;rw[Nat.zero_add];simp only[Int.toNat_natCast]
    rw[yL (agP c.scope t j) (.ret false) j 0 (fun q h1 h2=>by
      have hq:q<c.scope.length:=by omega
      rw[jG (by omega:j<c.scope.length),bnd_s,jG hq,bnd_s,jG (by omega:q<t.length)]
      unfold agP
      rw[xCt hj];generalize c.scope.getD q 0=u;generalize c.scope.getD j 0=z;generalize t.getD q 0=v;simp only[bnd_s]
      by_cases h3:z=u
      · by_cases h4:x=v
        · simp [h3,h4]
        · simp [h3,h4]
      · simp [h3])]
    cases (List.range' 0 j).any (agP c.scope t j)<;>rfl),uM,h]
  unfold agB
  cases (List.range' 0 c.scope.length).any fun k=>(List.range' 0 k).any (agP c.scope t k)<;>rfl
def nD (dom:List (List Int)):List Int→List Int→Bool
  | v::sc,a::t=>(dom.getD v.toNat []).any (· == a) && nD dom sc t
  | _,_=>true
def uF (c:Con) (dom:List (List Int)) (p:Nat) (a:Int) (t:List Int):Bool:=(t.getD p 0==a) && (agB c.scope t && nD dom c.scope t)
theorem tJ (l:List (List Int)) (p:List Int→Bool) (f:List Int→Option Bool) (hf:∀ x∈l,f x=some (p x)):zA l f=some (l.any p):=by
  obtain⟨i,h1,h2⟩:=jL l p f hf;have h3:zJ l f=some i:=h1
  unfold zA
  rw[h3,bnd_s,h2]
theorem ixD {dom:List (List Int)} {v:Int} (h0:0≤v) (h1:v<dom.length):ix dom v=some (dom.getD v.toNat []):=by
  refine gN h0 ?_;rw[List.getD_eq_getElem?_getD,List.getElem?_eq_getElem (by omega)]
  rfl
theorem yF (dom:List (List Int)) (t:List Int) (bd:Nat→Int→Unit→Option (Ctl Unit Bool)) (hb:∀ k v,bd k v ()=(xZ (ix dom v) fun z107=>xZ (ix t (k:Int)) fun z117=>xZ (zB z107 z117) fun z124=>if (!z124) then some (.ret false) else some (.go ()))):∀ (sc u:List Int) (k:Nat),t.drop k=u→u.length=sc.length→(∀ v∈sc,0≤v∧v<dom.length) →
    qT bd sc k ()=some (if nD dom sc u then .nx () else .ret false)
  | [],_,_,_,_,_=>rfl
  | v::sc,[],k,_,h,_=>by simp at h
  | v::sc,a::u,k,hd,hl,hs=>by
    have hv:=hs v (by simp);have hta:t[k]?=some a:=(oZ hd).2.1;have hb0:=hb k v;rw[ixD hv.1 hv.2,bnd_s,qX hta,bnd_s,pT,bnd_s] at hb0
    unfold nD
    cases hh:(dom.getD v.toNat []).any (· == a) with
    | false=>rw[hh] at hb0;rw[jH hb0];rfl
    | true=>
      rw[hh] at hb0;rw[kB (s':=()) hb0,yF dom t bd hb sc u (k+1) (oZ hd).2.2 (by simpa using hl) (fun w hw=>hs w (by simp [hw]))]
      rfl
theorem xIb (c:Con) (dom:List (List Int)) (p:Nat) (a:Int) (t:List Int) (h:t.length=c.scope.length) (hp:p<c.scope.length) (hs:∀ v∈c.scope,0≤v∧v<dom.length):dY t (p:Int) a (Con.mk c.rel c.scope) dom=some (uF c dom p a t):=by
  unfold dY uF
  rw[jG (by omega),bnd_s,show(Con.mk c.rel c.scope)=c from rfl,xId c t h,bnd_s,yF dom t _ (fun k v=>rfl) c.scope t 0 rfl h hs];generalize t.getD p 0=y;generalize nD dom c.scope t=z;generalize agB c.scope t=u
  by_cases h1:y=a
  · cases u<;>cases z<;>simp [h1]
  · simp [h1]
theorem xBd {ρ:Type} (dom:List (List Int)) (c:Con) (t:List Int) (ht:t.length≤1048576):∀ (N:Nat) (sc u:List Int) (k:Nat),u.length<N→t.drop k=u→c.scope.drop k=sc→u.length=sc.length→k≤t.length→(∀ v∈sc,0≤v∧v<dom.length) →
    ∃ q, fA (σ := Bool × Int) (ρ := ρ) (fun (s : Bool × Int) =>
            match s with
            | (s315,s316)=>
              zR (σ:=Bool) (
                if (decide (s316<(t.length:Int))) then   some (.nx s315) else   some (.nx false)) fun s332=>
              if s332 then
                xZ (ix c.scope s316) fun z344=>
                xZ (ix dom z344) fun z351=>
                xZ (ix t s316) fun z361=>
                xZ (dA z351 z361) fun z368=>
                xZ (ck (s316+1)) fun z370=>
                some (.go (z368,z370))
              else
                some (.brk (s315,s316))) N (true,(k:Int))=some (.nx (nD dom sc u,q))
  | 0,_,_,_,h,_,_,_,_,_=>by omega
  | N+1,[],u,k,hN,hu,hsc,hl,hk,_=>by
    have hu0:u=[]:=List.length_eq_zero_iff.1 hl
    have:t.length≤k:=by rw[hu0] at hu;exact List.drop_eq_nil_iff.1 hu
    refine⟨(k:Int),fC ?_⟩
    have hd:decide ((k:Int)<(t.length:Int))=false:=by simp;omega
    rw[hu0];simp only[hd,Bool.false_eq_true,if_false,thn_nx]
    rfl
  | N+1,v::sc,[],_,_,_,_,h,_,_=>by simp at h
  | N+1,v::sc,a::u,k,hN,hu,hsc,hl,hk,hs=>by
    have hv:=hs v (by simp);have hta:=oZ hu;have hsv:=oZ hsc
    have hd:decide ((k:Int)<(t.length:Int))=true:=by simp;exact hta.1
    have hc1:ck ((k:Int)+1)=some (((k+1:Nat)):Int):=kE (by omega) (by omega)
    have hb : ∀ b : Bool, b = (dom.getD v.toNat []).any (· == a) → ∃ q, fA (σ := Bool × Int) (ρ := ρ) (fun (s : Bool × Int) =>
            match s with
            | (s315,s316)=>
              zR (σ:=Bool) (
                if (decide (s316<(t.length:Int))) then   some (.nx s315) else   some (.nx false)) fun s332=>
              if s332 then
                xZ (ix c.scope s316) fun z344=>
                xZ (ix dom z344) fun z351=>
                xZ (ix t s316) fun z361=>
                xZ (dA z351 z361) fun z368=>
                xZ (ck (s316+1)) fun z370=>
                some (.go (z368,z370))
              else
                some (.brk (s315,s316))) N (b,((k+1:Nat):Int))=some (.nx (nD dom (v::sc) (a::u),q)):=by
      intro b hbb
      unfold nD
      rw[← hbb]
      cases b with
      | true=>
        obtain⟨q,hq⟩:=xBd (ρ:=ρ) dom c t ht N sc u (k+1) (by simp at hN;omega) hta.2.2 hsv.2.2 (by simpa using hl) (by omega) (fun w hw=>hs w (by simp [hw]));exact⟨q,by rw[hq];rfl⟩
      | false=>
        cases N with
        | zero=>simp at hN
        | succ N=>
          refine⟨((k+1:Nat):Int),fC ?_⟩
          by_cases h9:decide ((((k+1:Nat):Int))<(t.length:Int))=true
          · simp only[h9,if_true,thn_nx];rfl
          · have h9':decide ((((k+1:Nat):Int))<(t.length:Int))=false:=by simpa using h9
            simp only[h9',thn_nx];rfl
    obtain⟨q,hq⟩:=hb _ rfl;refine⟨q,?_⟩
    rw[iA (s':=((dom.getD v.toNat []).any (· == a),((k+1:Nat):Int))) (by
      simp only[hd,if_true,thn_nx,qX hsv.2.1,qX hta.2.1,ixD hv.1 hv.2,uN,hc1,bnd_s]),hq]
theorem xIn {N:Nat} {ρ:Type} (c:Con) (dom:List (List Int)) (p:Nat) (a:Int) (t:List Int) (h:t.length=c.scope.length) (hp:p<c.scope.length) (hs:∀ v∈c.scope,0≤v∧v<dom.length) (hN:t.length<N) (hl:t.length≤1048576) (b:Bool) (hb:b=((t.getD p 0==a) && agB c.scope t)) :
    ∃ q, fA (σ := Bool × Int) (ρ := ρ) (fun (s : Bool × Int) =>
            match s with
            | (s315,s316)=>
              zR (σ:=Bool) (
                if (decide (s316<(t.length:Int))) then   some (.nx s315) else   some (.nx false)) fun s332=>
              if s332 then
                xZ (ix c.scope s316) fun z344=>
                xZ (ix dom z344) fun z351=>
                xZ (ix t s316) fun z361=>
                xZ (dA z351 z361) fun z368=>
                xZ (ck (s316+1)) fun z370=>
                some (.go (z368,z370))
              else
                some (.brk (s315,s316))) N (b,0)=some (.nx (uF c dom p a t,q)):=by
  unfold uF
  rw[← Bool.and_assoc,← hb]
  cases b with
  | true=>
    obtain⟨q,hq⟩:=xBd (ρ:=ρ) dom c t hl N c.scope t 0 hN rfl rfl h (Nat.zero_le _) hs;exact⟨q,by rw[Bool.true_and];exact hq⟩
  | false=>
    cases N with
    | zero=>omega
    | succ N=>
      refine⟨0,fC ?_⟩
      by_cases h9:decide ((0:Int)<(t.length:Int))=true
      · simp only[h9,if_true,thn_nx];rfl
      · have h9':decide ((0:Int)<(t.length:Int))=false:=by simpa using h9
        simp only[h9',thn_nx];rfl
structure ConOk (x:Template) (c:Con) (n:Nat):Prop where
  rel:∃ r,ix x.rels c.rel=some r∧∀ t∈r.tuples,t.length=c.scope.length
  sc:∀ v∈c.scope,0≤v∧v<(n:Int)
  four:c.scope.length≤4
def wH (x:Template) (c:Con) (dom:List (List Int)) (p:Nat) (a:Int):Bool:=((ix x.rels c.rel).getD default).tuples.any (uF c dom p a)
theorem xGf {N:Nat} {x:Template} {c:Con} {dom:List (List Int)} {p:Nat} (a:Int) (hN:10≤N) (hc:ConOk x c dom.length) (hp:p<c.scope.length):bF x c dom (p:Int) a=some (wH x c dom p a)∧bE N x c dom (p:Int) a=some (wH x c dom p a):=by
  obtain⟨r,hr,hT⟩:=hc.rel;have h4:=hc.four
  have hb:wH x c dom p a=r.tuples.any (uF c dom p a):=by unfold wH;rw[hr];rfl
  rw[hb];refine⟨?_,?_⟩
  · unfold bF
    rw[hr,bnd_s,tJ _ (uF c dom p a) _ (fun t ht=>xIb c dom p a t (hT t ht) hp hc.sc),bnd_s]
  · unfold bE
    rw[hr,bnd_s,dV (fun _ t=>if uF c dom p a t then some true else none) (fun j t hj=>by
      have hl:=hT t (List.mem_of_getElem? hj)
      have hw:zR (σ:=Bool) (ρ:=Ctl Unit Bool) (xZ (ix t (p:Int)) fun z251=>if (z251==a) then xZ (fO c t) fun z259=>some (.nx z259) else some (.nx false))=fun k=>k ((t.getD p 0==a) && agB c.scope t):=by
        funext k
        rw[jG (by omega),bnd_s,xKg c t hl,bnd_s];generalize t.getD p 0=y
        by_cases h1:y=a
        · simp [h1]
        · have h2:(y==a)=false:=by simpa using h1
          simp [h2]
      simp only[hw];obtain⟨q,hq⟩:=xIn (N:=N) (ρ:=Ctl Unit Bool) c dom p a t hl hp hc.sc (by omega) (by omega) _ rfl;rw[hq,thn_nx]
      cases uF c dom p a t<;>rfl),mM]
    cases r.tuples.any (uF c dom p a)<;>rfl
end Go.Proofs.YtncganhbpbehaaaGreat
namespace Go.Proofs.YtncganhbpbehaaaGreat
set_option linter.unusedVariables false
set_option linter.unusedSimpArgs false
theorem yQ {α σ σ' ρ ρ':Type} {f:Nat→α→σ→Option (Ctl σ ρ)} {g:Nat→α→σ'→Option (Ctl σ' ρ')} (R:Nat→σ→σ'→Prop) (Q:ρ→ρ'→Prop):∀ (l:List α) (k:Nat) (s:σ) (s':σ'),R k s s' →
    (∀ j x s s',l[j]?=some x→R (k+j) s s'→(∃ t t',f (k+j) x s=some (.go t)∧g (k+j) x s'=some (.go t')∧R (k+j+1) t t')∨(∃ r r',f (k+j) x s=some (.ret r)∧g (k+j) x s'=some (.ret r')∧Q r r')) →
    (∃ t t',qT f l k s=some (.nx t)∧qT g l k s'=some (.nx t')∧R (k+l.length) t t')∨(∃ r r',qT f l k s=some (.ret r)∧qT g l k s'=some (.ret r')∧Q r r')
  | [],_,s,s',h,_=>.inl ⟨s,s',rfl,rfl,h⟩
  | x::l,k,s,s',h,hh=>by
    rcases hh 0 x s s' rfl h with ⟨t,t',h1,h2,h3⟩ | ⟨r,r',h1,h2,h3⟩
    · rw[Nat.add_zero] at h1 h2 h3
      rw[kB h1,kB h2]
      have:=yQ R Q l (k+1) t t' h3 (fun j y s s' hj hr=>by
        rw[Nat.add_assoc,Nat.add_comm 1 j] at hr ⊢
        exact hh (j+1) y s s' hj hr)
      rw[List.length_cons,Nat.add_comm l.length 1,← Nat.add_assoc];exact this
    · rw[Nat.add_zero] at h1 h2
      exact .inr ⟨r,r',jH h1,jH h2,h3⟩
theorem xGy {σ σ' ρ ρ':Type} {f:σ→Option (Ctl σ ρ)} {g:σ'→Option (Ctl σ' ρ')} (R:σ→σ'→Prop) (E:σ→σ'→Prop) (Q:ρ→ρ'→Prop) (μ:σ→Nat)
    (hh:∀ s s',R s s'→(∃ t t',f s=some (.go t)∧g s'=some (.go t')∧R t t'∧μ t<μ s)∨(∃ t t',f s=some (.brk t)∧g s'=some (.brk t')∧E t t')∨(∃ r r',f s=some (.ret r)∧g s'=some (.ret r')∧Q r r')) :
    ∀ (N:Nat) (s:σ) (s':σ'),μ s<N→R s s'→(∃ t t',fA f N s=some (.nx t)∧fA g N s'=some (.nx t')∧E t t')∨(∃ r r',fA f N s=some (.ret r)∧fA g N s'=some (.ret r')∧Q r r')
  | 0,_,_,h,_=>by omega
  | N+1,s,s',hN,h=>by
    rcases hh s s' h with ⟨t,t',h1,h2,h3,h4⟩ | ⟨t,t',h1,h2,h3⟩ | ⟨r,r',h1,h2,h3⟩
    · rw[iA h1,iA h2]
      exact xGy R E Q μ hh N t t' (by omega) h3
    · exact .inl ⟨t,t',fC h1,fC h2,h3⟩
    · exact .inr ⟨r,r',sO h1,sO h2,h3⟩
def tot (dom:List (List Int)):Nat:=(dom.map List.length).sum
theorem xDj:∀ (dom:List (List Int)) (i:Nat) (d w:List Int),dom[i]?=some d→tot (dom.set i w)+d.length=tot dom+w.length
  | [],i,d,w,h=>by simp at h
  | x::r,0,d,w,h=>by
    simp at h;subst h
    simp [tot];omega
  | x::r,i+1,d,w,h=>by
    have:=xDj r i d w (by simpa using h)
    simp [tot] at this ⊢
    omega
theorem pA {dom:List (List Int)} {d:List Int} (h:d∈dom):d.length≤tot dom:=by
  induction dom with
  | nil=>cases h
  | cons x r ih=>
    simp only[tot,List.map_cons,List.sum_cons]
    rcases List.mem_cons.1 h with rfl | h
    · omega
    · have:=ih h;unfold tot at this;omega
structure DomOk (n T:Nat) (dom:List (List Int)):Prop where
  len:dom.length=n
  nd:∀ d∈dom,d.Nodup
  le:tot dom≤T
theorem xDl {l:List Int} {a:Int} (h:a∈l):(l.filter (· != a)).length<l.length:=by
  induction l with
  | nil=>cases h
  | cons x r ih=>
    rw[List.filter_cons]
    by_cases hx:x=a
    · subst hx
      have:=List.length_filter_le (· != x) r
      simp;omega
    · have hne:(x != a)=true:=by simp [hx]
      rw[if_pos hne]
      rcases List.mem_cons.1 h with h | h
      · exact absurd h.symm hx
      · have:=ih h;simp;omega
theorem mem_set {dom:List (List Int)} {i:Nat} {w d:List Int} (h:d∈dom.set i w):d∈dom∨d=w:=List.mem_or_eq_of_mem_set h
theorem DomOk.set {n T:Nat} {dom:List (List Int)} (h:DomOk n T dom) {i:Nat} {d w:List Int} (hd:dom[i]?=some d) (hw:w.Nodup) (hl:w.length≤d.length):DomOk n T (dom.set i w):=by
  refine⟨by simp [h.len],fun e he=>(mem_set he).elim (h.nd e) (fun e'=>e' ▸ hw),?_⟩;have:=xDj dom i d w hd;have:=h.le
  omega
theorem uW (dom:List (List Int)):zV dom=some (dom.any (fun d=>(d.length:Int)==0)):=by
  unfold zV
  rw[tJ _ (fun d=>(d.length:Int)==0) (fun a0=>fF a0) (fun d _=>rfl),bnd_s]
def nB (dom:List (List Int)):Prop:=∀ d∈dom,d≠[]
theorem xMn {dom:List (List Int)} (h:nB dom) {i:Nat} (hi:i<dom.length) (w:List Int):(dom.set i w).any (fun d=>(d.length:Int)==0)=((w.length:Int)==0):=by
  cases hw:((w.length:Int)==0) with
  | true=>rw[List.any_eq_true];exact⟨w,List.mem_set hi w,hw⟩
  | false=>
    rw[List.any_eq_false];intro d hd
    rcases mem_set hd with hd | rfl
    · have:=h d hd
      simp only[beq_iff_eq];intro h0;exact this (List.length_eq_zero_iff.1 (by omega))
    · simp [hw]
structure PInv (K:List (List Int)→Prop) (n B T:Nat) (D:List (List Int)→Prop) (dom:List (List Int)) (out:List ArcStep) (ch:Bool):Prop where
  ok:DomOk n T dom
  full:nB dom
  sum:out.length+tot dom≤T
  ge:B≤out.length
  yes:ch=true→B<out.length
  no:ch=false→out.length=B
  k:K dom
  con:ch=false→D dom
theorem PInv.mono {K D D':List (List Int)→Prop} {n B T:Nat} {dom:List (List Int)} {out:List ArcStep} {ch:Bool} (h:PInv K n B T D dom out ch) (hd:D dom→D' dom):PInv K n B T D' dom out ch:=⟨h.ok,h.full,h.sum,h.ge,h.yes,h.no,h.k,fun e=>hd (h.con e)⟩
def xLb (K:List (List Int)→Prop) (x:Template) (c:Con) (p:Nat) (v:Int):Prop:=∀ dom a,K dom→wH x c dom p a=false→K (dom.set v.toNat ((dom.getD v.toNat []).filter (· != a)))
theorem xJh {N:Nat} {K D:List (List Int)→Prop} {x:Template} {c:Con} {n B T kc p:Nat} {v a:Int} {dom:List (List Int)} {out:List ArcStep} {ch:Bool} (hN:10≤N) (hNT:T<N) (hT:T≤1048576) (hc:ConOk x c n) (hp:p<c.scope.length) (hv:0≤v∧v<(n:Int)) (hK:xLb K x c p v) (I:PInv K n B T D dom out ch) (ha:a∈dom.getD v.toNat []) :
    ∃ b,wH x c dom p a=b∧bF (Template.mk x.size x.rels) (Con.mk c.rel c.scope) dom (p:Int) a=some b∧bE N x c dom (p:Int) a=some b∧(b=false→∃ d w out',ix dom v=some d∧dom[v.toNat]?=some d∧w=d.filter (· != a)∧aP N d a=some w∧aN d a=some w∧out'=out++[ArcStep.mk v a (kc:Int)]∧ap out [ArcStep.mk v a (kc:Int)]=some out' ∧
      zV (dom.set v.toNat w)=some ((w.length:Int)==0)∧ix (dom.set v.toNat w) v=some w∧DomOk n T (dom.set v.toNat w)∧out'.length+tot (dom.set v.toNat w)≤T∧B<out'.length∧K (dom.set v.toNat w)∧(((w.length:Int)==0)=false→∀ D',PInv K n B T D' (dom.set v.toNat w) out' true)):=by
  have hl:=I.ok.len;obtain⟨h1,h2⟩:=xGf (N:=N) (dom:=dom) a hN (hl.symm ▸ hc) hp;refine⟨_,rfl,h1,h2,fun hb=>?_⟩;have hk:=hK dom a I.k hb
  have hvn:v.toNat<dom.length:=by omega
  have hdv:dom[v.toNat]?=some (dom.getD v.toNat []):=by rw[List.getD_eq_getElem?_getD,List.getElem?_eq_getElem hvn];rfl
  obtain⟨d,hd⟩:∃ d,d=dom.getD v.toNat []:=⟨_,rfl⟩;rw[← hd] at ha hdv hk;have hdm:d∈dom:=List.mem_of_getElem? hdv;have hdl:=pA hdm;have hle:=I.ok.le;have hsum:=I.sum;have hless:=xDl ha;have hset:=xDj dom v.toNat d (d.filter (· != a)) hdv;have hok:DomOk n T (dom.set v.toNat (d.filter (· != a))):=I.ok.set hdv ((I.ok.nd d hdm).filter _) (by omega)
  have hsum':(out++[ArcStep.mk v a (kc:Int)]).length+tot (dom.set v.toNat (d.filter (· != a)))≤T:=by
    rw[List.length_append,List.length_singleton];omega
  have hB:B<(out++[ArcStep.mk v a (kc:Int)]).length:=by rw[List.length_append,List.length_singleton];have:=I.ge;omega
  refine⟨d,_,_,by rw[ixD hv.1 (by omega),← hd],hdv,rfl,sL d a (by omega) (by omega),sF d a (by omega),rfl,zX (by simp only[List.length_cons,List.length_nil];omega),by rw[uW,xMn I.full hvn],?_,hok,hsum',hB,hk,fun he D'=>⟨hok,fun e hm=>?_,hsum',by omega,fun _=>hB,(fun h=>nomatch h),hk,fun h=>nomatch h⟩⟩
  · exact gN hv.1 (List.getElem?_set_self hvn)
  · rcases mem_set hm with hm | rfl
    · exact I.full e hm
    · intro h0;rw[h0] at he;simp at he
def RQ (K:List (List Int)→Prop) (n B T:Nat) (r r':List ArcStep×List (List Int)):Prop:=r=r'∧DomOk n T r.2∧r.1.length+tot r.2≤T∧K r.2∧¬ nB r.2
def Sup (x:Template) (c:Con) (p:Nat) (v:Int) (dom:List (List Int)):Prop:=∀ a∈dom.getD v.toNat [],wH x c dom p a=true
theorem xGj {N:Nat} {K D:List (List Int)→Prop} {x:Template} {c:Con} {n B T kc p:Nat} {v:Int} {ρ ρ':Type} (F:List ArcStep×List (List Int)→ρ) (G:List ArcStep×List (List Int)→ρ') (hN:10≤N) (hNT:T<N) (hT:T≤1048576) (hc:ConOk x c n) (hp:p<c.scope.length) (hv:0≤v∧v<(n:Int)) (hK:xLb K x c p v)
    {f:Nat→Int→List ArcStep×Bool×List (List Int)→Option (Ctl (List ArcStep×Bool×List (List Int)) ρ)} {g:Nat→Int→List ArcStep×List (List Int)→Option (Ctl (List ArcStep×List (List Int)) ρ')}
    (hf:∀ k a out ch dom,f k a (out,ch,dom)=xZ (bF (Template.mk x.size x.rels) (Con.mk c.rel c.scope) dom (p:Int) a) fun z=>if z then some (.go (out,ch,dom)) else xZ (ix dom v) fun z1=>xZ (aP N z1 a) fun z2=>xZ (ap out [ArcStep.mk v a (kc:Int)]) fun z3=>xZ (zV (dom.set v.toNat z2)) fun z4=>if z4 then some (.ret (F (z3,dom.set v.toNat z2))) else some (.go (z3,true,dom.set v.toNat z2)))
    (hg:∀ k a out dom,g k a (out,dom)=xZ (bE N x c dom (p:Int) a) fun z=>if (!z) then xZ (ix dom v) fun z1=>xZ (aN z1 a) fun z2=>xZ (ap out [ArcStep.mk v a (kc:Int)]) fun z3=>zR (σ:=Bool) (if true then xZ (ix (dom.set v.toNat z2) v) fun z4=>some (.nx ((z4.length:Int)==0)) else some (.nx false)) fun s=>if s then some (.ret (G (z3,dom.set v.toNat z2))) else some (.go (z3,dom.set v.toNat z2)) else some (.go (out,dom)))
    (dom:List (List Int)) (out:List ArcStep) (ch:Bool) (I:PInv K n B T D dom out ch) :
    (∃ out' ch' dom',qT f (dom.getD v.toNat []) 0 (out,ch,dom)=some (.nx (out',ch',dom'))∧qT g (dom.getD v.toNat []) 0 (out,dom)=some (.nx (out',dom'))∧PInv K n B T (fun d=>D d∧Sup x c p v d) dom' out' ch') ∨
    (∃ r,qT f (dom.getD v.toNat []) 0 (out,ch,dom)=some (.ret (F r))∧qT g (dom.getD v.toNat []) 0 (out,dom)=some (.ret (G r))∧RQ K n B T r r):=by
  obtain⟨left,hleft⟩:∃ l,l=dom.getD v.toNat []:=⟨_,rfl⟩
  have hnd:left.Nodup:=by
    rw[hleft]
    have hvn:v.toNat<dom.length:=by have:=I.ok.len;omega
    rw[List.getD_eq_getElem?_getD,List.getElem?_eq_getElem hvn];exact I.ok.nd _ (List.getElem_mem hvn)
  rw[← hleft]
  rcases yQ (f:=f) (g:=g) (fun k s s'=>s'=(s.1,s.2.2)∧PInv K n B T (fun d=>D d∧d.getD v.toNat []=left∧∀ a∈left.take k,wH x c d p a=true) s.2.2 s.1 s.2.1∧∀ a∈left.drop k,a∈s.2.2.getD v.toNat []) (fun r r'=>∃ q,r=F q∧r'=G q∧RQ K n B T q q) left 0 (out,ch,dom) (out,dom) ⟨rfl,I.mono (fun h=>⟨h,hleft.symm,fun a ha=>by simp at ha⟩),fun a ha=>by rw[← hleft];simpa using ha⟩ (fun j a s s' hj hR=>by
    obtain⟨hs',I',hin⟩:=hR;obtain⟨o,c',dm⟩:=s;subst hs';rw[Nat.zero_add] at hin ⊢;have hd:=xMo hj
    have ham:a∈left.drop j:=by rw[hd];simp
    obtain⟨b,h0,h1,h2,h3⟩:=xJh (kc:=kc) hN hNT hT hc hp hv hK I' (hin a ham)
    cases b with
    | true=>
      refine .inl ⟨(o,c',dm),(o,dm),by rw[hf,h1,bnd_s,if_pos rfl],by rw[hg,h2,bnd_s];rfl,rfl,I'.mono (fun h=>⟨h.1,h.2.1,fun e he=>?_⟩),fun e he=>hin e ?_⟩
      · rw[List.take_add_one,hj] at he
        rcases List.mem_append.1 he with he | he
        · exact h.2.2 e (by rw[Nat.zero_add];exact he)
        · simp only[Option.toList,List.mem_singleton] at he
          rw[he];exact h0
      · rw[hd];simp [he]
    | false=>
      obtain⟨d,w,o',q1,q2,q3,q4,q5,q6,q7,q8,q9,q10,q11,q12,qk,q13⟩:=h3 rfl
      have ef:f j a (o,c',dm)=if ((w.length:Int)==0) then some (.ret (F (o',dm.set v.toNat w))) else some (.go (o',true,dm.set v.toNat w)):=by
        rw[hf,h1,bnd_s,if_neg (by simp),q1,bnd_s,q4,bnd_s,q7,bnd_s,q8,bnd_s]
      have eg:g j a (o,dm)=if ((w.length:Int)==0) then some (.ret (G (o',dm.set v.toNat w))) else some (.go (o',dm.set v.toNat w)):=by
        rw[hg,h2,bnd_s];simp only[Bool.not_false,if_true,q1,q5,q7,q9,bnd_s,thn_nx]
      cases hz:((w.length:Int)==0) with
      | true=>
        rw[hz] at ef eg
        have hvn:v.toNat<dm.length:=by have:dm.length=n:=I'.ok.len;omega
        exact .inr ⟨_,_,ef,eg,_,rfl,rfl,rfl,q10,q11,qk,fun hf=>hf w (List.mem_set hvn w) (List.length_eq_zero_iff.1 (by simpa using hz))⟩
      | false=>
        rw[hz] at ef eg;refine .inl ⟨_,_,ef,eg,rfl,q13 hz _,fun e he=>?_⟩
        have hvn:v.toNat<dm.length:=by have:dm.length=n:=I'.ok.len;omega
        show e∈(dm.set v.toNat w).getD v.toNat []
        rw[List.getD_eq_getElem?_getD,List.getElem?_set_self hvn,Option.getD_some,q3,List.mem_filter]
        have hnd2:(a::left.drop (j+1)).Nodup:=by rw[← hd];exact hnd.sublist (List.drop_sublist _ _)
        have hne:e≠a:=fun h=>(List.nodup_cons.1 hnd2).1 (h ▸ he);have h7:=hin e (by rw[hd];simp [he]);rw[List.getD_eq_getElem?_getD,q2,Option.getD_some] at h7
        exact⟨h7,by simpa using hne⟩) with ⟨t,t',h1,h2,h3,h4,_⟩ | ⟨r,r',h1,h2,q,h3,h4,h5⟩
  · obtain⟨o,c',dm⟩:=t
    exact .inl ⟨o,c',dm,h1,by rw[h2,h3],h4.mono (fun h=>⟨h.1,fun a ha=>by rw[h.2.1] at ha;exact h.2.2 a (by rw[Nat.zero_add,List.take_length];exact ha)⟩)⟩
  · exact .inr ⟨q,by rw[h1,h3],by rw[h2,h4],h5⟩
theorem pS (dom:List (List Int)):(dom.any (fun d=>(d.length:Int)==0))=false↔nB dom:=by
  rw[List.any_eq_false]
  constructor
  · intro h d hd h0
    exact h d hd (by rw[h0];rfl)
  · intro h d hd
    have:=h d hd;simp only[beq_iff_eq];intro h0;exact this (List.length_eq_zero_iff.1 (by omega))
theorem yR {ρ:Type} (dom:List (List Int)) (hl:dom.length≤1048576) (h:nB dom) (r:ρ):∀ (N k:Nat),dom.length - k<N→k≤dom.length →
    fA (σ:=Int) (ρ:=ρ) (fun(s51:Int)=>
      zR (σ:=Bool) (
        if (decide (s51<(dom.length:Int))) then   some (.nx true) else   some (.nx false)) fun s66=>
      if s66 then
        xZ (ix dom s51) fun z70=>
        if ((z70.length:Int)==0) then
          some (.ret r)
        else
          xZ (ck (s51+1)) fun z83=>
          some (.go z83)
      else
        some (.brk s51)) N (k:Int)=some (.nx ((dom.length:Nat):Int))
  | 0,_,h,_=>by omega
  | N+1,k,hN,hk=>by
    by_cases hlt:k<dom.length
    · have hd:decide ((k:Int)<(dom.length:Int))=true:=by simp;exact hlt
      have hx:ix dom (k:Int)=some dom[k]:=qX (List.getElem?_eq_getElem hlt);have hc1:ck ((k:Int)+1)=some (((k+1:Nat)):Int):=kE (by omega) (by omega)
      have hz:((dom[k].length:Int)==0)=false:=(by
        have:=h dom[k] (List.getElem_mem hlt);simp only[beq_eq_false_iff_ne];intro h0
        exact this (List.length_eq_zero_iff.1 (by omega)))
      rw[iA (s':=((k+1:Nat):Int)) (by simp only[hd,if_true,thn_nx,hx,bnd_s,hz,Bool.false_eq_true,if_false,hc1])];exact yR dom hl h r N (k+1) (by omega) (by omega)
    · obtain rfl:k=dom.length:=by omega
      have hd:decide (((dom.length:Nat):Int)<(dom.length:Int))=false:=by simp
      exact fC (by simp only[hd,Bool.false_eq_true,if_false,thn_nx])
theorem uT {ρ:Type} (dom:List (List Int)) (hl:dom.length≤1048576) (r:ρ):∀ (N k:Nat),dom.length - k<N→k≤dom.length→((dom.drop k).any (fun d=>(d.length:Int)==0))=true →
    fA (σ:=Int) (ρ:=ρ) (fun(s51:Int)=>
      zR (σ:=Bool) (
        if (decide (s51<(dom.length:Int))) then   some (.nx true) else   some (.nx false)) fun s66=>
      if s66 then
        xZ (ix dom s51) fun z70=>
        if ((z70.length:Int)==0) then
          some (.ret r)
        else
          xZ (ck (s51+1)) fun z83=>
          some (.go z83)
      else
        some (.brk s51)) N (k:Int)=some (.ret r)
  | 0,_,h,_,_=>by omega
  | N+1,k,hN,hk,ha=>by
    by_cases hlt:k<dom.length
    · have hd:decide ((k:Int)<(dom.length:Int))=true:=by simp;exact hlt
      have hx:ix dom (k:Int)=some dom[k]:=qX (List.getElem?_eq_getElem hlt);have hc1:ck ((k:Int)+1)=some (((k+1:Nat)):Int):=kE (by omega) (by omega);rw[List.drop_eq_getElem_cons hlt,List.any_cons,Bool.or_eq_true] at ha
      cases hz:((dom[k].length:Int)==0) with
      | true=>exact sO (by simp only[hd,if_true,thn_nx,hx,bnd_s,hz])
      | false=>
        rw[iA (s':=((k+1:Nat):Int)) (by simp only[hd,if_true,thn_nx,hx,bnd_s,hz,Bool.false_eq_true,if_false,hc1])];exact uT dom hl r N (k+1) (by omega) (by omega) (ha.resolve_left (by rw[hz];simp))
    · rw[List.drop_eq_nil_of_le (by omega)] at ha
      simp at ha
theorem xOx {ρ:Type} (dom:List (List Int)) (hl:dom.length≤1048576) (h:nB dom) (r:ρ) {N:Nat} (hN:dom.length<N) {s0:Int} (hs:s0=((0:Nat):Int)) :
    fA (σ:=Int) (ρ:=ρ) (fun(s51:Int)=>
      zR (σ:=Bool) (
        if (decide (s51<(dom.length:Int))) then   some (.nx true) else   some (.nx false)) fun s66=>
      if s66 then
        xZ (ix dom s51) fun z70=>
        if ((z70.length:Int)==0) then
          some (.ret r)
        else
          xZ (ck (s51+1)) fun z83=>
          some (.go z83)
      else
        some (.brk s51)) N s0=some (.nx ((dom.length:Nat):Int)):=by rw[hs];exact yR dom hl h r N 0 (by omega) (Nat.zero_le _)
theorem xOs {ρ:Type} (dom:List (List Int)) (hl:dom.length≤1048576) (h:¬ nB dom) (r:ρ) {N:Nat} (hN:dom.length<N) {s0:Int} (hs:s0=((0:Nat):Int)) :
    fA (σ:=Int) (ρ:=ρ) (fun(s51:Int)=>
      zR (σ:=Bool) (
        if (decide (s51<(dom.length:Int))) then   some (.nx true) else   some (.nx false)) fun s66=>
      if s66 then
        xZ (ix dom s51) fun z70=>
        if ((z70.length:Int)==0) then
          some (.ret r)
        else
          xZ (ck (s51+1)) fun z83=>
          some (.go z83)
      else
        some (.brk s51)) N s0=some (.ret r):=by
  have h2:(dom.any (fun d=>(d.length:Int)==0))=true:=by
    cases h3:(dom.any (fun d=>(d.length:Int)==0)) with
    | true=>rfl
    | false=>exact absurd ((pS dom).1 h3) h
  rw[hs];exact uT dom hl r N 0 (by omega) (Nat.zero_le _) (by simpa using h2)
def cK {α β:Type} (a:Option α) (b:Option β) (P:α→β→Prop):Prop:=∃ x y,a=some x∧b=some y∧P x y
def xEi {σ σ' ρ ρ':Type} (R:σ→σ'→Prop) (Q:ρ→ρ'→Prop):Out σ ρ→Out σ' ρ'→Prop
  | .nx s,.nx s'=>R s s'
  | .ret r,.ret r'=>Q r r'
  | _,_=>False
def xPm {σ σ' ρ ρ':Type} (R E:σ→σ'→Prop) (Q:ρ→ρ'→Prop):Ctl σ ρ→Ctl σ' ρ'→Prop
  | .go s,.go s'=>R s s'
  | .brk s,.brk s'=>E s s'
  | .ret r,.ret r'=>Q r r'
  | _,_=>False
section
variable {α β γ δ σ σ' ρ ρ':Type} {P:γ→δ→Prop}
theorem cK.s {a:γ} {b:δ} (h:P a b):cK (some a) (some b) P:=⟨a,b,rfl,rfl,h⟩
theorem cK.mono {P':γ→δ→Prop} {a:Option γ} {b:Option δ} (h:cK a b P) (k:∀ x y,P x y→P' x y):cK a b P':=let ⟨x,y,h1,h2,h3⟩:=h;⟨x,y,h1,h2,k x y h3⟩
theorem cK.bnd {A:α→β→Prop} {o:Option α} {o':Option β} {k:α→Option γ} {k':β→Option δ} (h:cK o o' A) (hk:∀ a b,A a b→cK (k a) (k' b) P):cK (xZ o k) (xZ o' k') P:=by
  obtain⟨a,b,rfl,rfl,h⟩:=h;exact hk a b h
theorem cK.l {o:Option α} {k:α→Option γ} {b:Option δ} {a:α} (h:o=some a) (hk:cK (k a) b P):cK (Go.Proofs.YtncganhbpbehaaaGreat.xZ o k) b P:=by rw[h];exact hk
theorem cK.r {o:Option α} {k:α→Option δ} {b:Option γ} {a:α} (h:o=some a) (hk:cK b (k a) P):cK b (Go.Proofs.YtncganhbpbehaaaGreat.xZ o k) P:=by rw[h];exact hk
theorem cK.thn (R:σ→σ'→Prop) (Q:γ→δ→Prop) {o:Option (Out σ γ)} {o':Option (Out σ' δ)} {k:σ→Option γ} {k':σ'→Option δ} (h:cK o o' (xEi R Q)) (hk:∀ a b,R a b→cK (k a) (k' b) P) (hq:∀ a b,Q a b→P a b):cK (zR o k) (zR o' k') P:=by
  obtain⟨a,b,rfl,rfl,h⟩:=h
  cases a<;>cases b<;>first | exact hk _ _ h | exact cK.s (hq _ _ h) | exact h.elim
theorem cK.forL (R:Nat→σ→σ'→Prop) (Q:ρ→ρ'→Prop) {f:Nat→α→σ→Option (Ctl σ ρ)} {g:Nat→α→σ'→Option (Ctl σ' ρ')} {l:List α} {k:Nat} {s:σ} {s':σ'} (h:R k s s')
    (hh:∀ j x s s',l[j]?=some x→R (k+j) s s'→cK (f (k+j) x s) (g (k+j) x s') (xPm (R (k+j+1)) (fun _ _=>False) Q)):cK (qT f l k s) (qT g l k s') (xEi (R (k+l.length)) Q):=by
  rcases yQ R Q l k s s' h (fun j x s s' hj hr=>by
    obtain⟨a,b,h1,h2,h3⟩:=hh j x s s' hj hr
    cases a<;>cases b<;>first | exact .inl ⟨_,_,h1,h2,h3⟩ | exact .inr ⟨_,_,h1,h2,h3⟩ | exact h3.elim) with ⟨t,t',h1,h2,h3⟩ | ⟨r,r',h1,h2,h3⟩
  · exact⟨_,_,h1,h2,h3⟩
  · exact⟨_,_,h1,h2,h3⟩
theorem cK.whl (R:σ→σ'→Prop) (E:σ→σ'→Prop) (Q:ρ→ρ'→Prop) (μ:σ→Nat) {f:σ→Option (Ctl σ ρ)} {g:σ'→Option (Ctl σ' ρ')} {N:Nat} {s:σ} {s':σ'} (hN:μ s<N) (h:R s s')
    (hh:∀ s s',R s s'→cK (f s) (g s') (xPm (fun t t'=>R t t'∧μ t<μ s) E Q)):cK (fA f N s) (fA g N s') (xEi E Q):=by
  rcases xGy R E Q μ (fun s s' hr=>by
    obtain⟨a,b,h1,h2,h3⟩:=hh s s' hr
    cases a<;>cases b<;>first | exact .inl ⟨_,_,h1,h2,h3.1,h3.2⟩ | exact .inr (.inl ⟨_,_,h1,h2,h3⟩) | exact .inr (.inr ⟨_,_,h1,h2,h3⟩) | exact h3.elim) N s s' hN h with ⟨t,t',h1,h2,h3⟩ | ⟨r,r',h1,h2,h3⟩
  · exact⟨_,_,h1,h2,h3⟩
  · exact⟨_,_,h1,h2,h3⟩
end
theorem xIc {N:Nat} {x:Template} {y:Instance} {dom:List (List Int)} (hl:dom.length≤1048576) (hN:dom.length<N) (h:¬ nB dom):aH N x y dom true=some ([],dom):=by
  unfold aH
  rw[xOs dom hl h _ hN (s0:=0) rfl,thn_ret]
theorem xNl {N:Nat} {K D:List (List Int)→Prop} {x:Template} {c:Con} {n B T kc p:Nat} {v:Int} {ρ ρ':Type} {F:List ArcStep×List (List Int)→ρ} {G:List ArcStep×List (List Int)→ρ'} (hN:10≤N) (hNT:T<N) (hT:T≤1048576) (hc:ConOk x c n) (hp:p<c.scope.length) (hv:0≤v∧v<(n:Int)) (hK:xLb K x c p v)
    {f:Nat→Int→List ArcStep×Bool×List (List Int)→Option (Ctl (List ArcStep×Bool×List (List Int)) ρ)} {g:Nat→Int→List ArcStep×List (List Int)→Option (Ctl (List ArcStep×List (List Int)) ρ')}
    (hf:∀ k a out ch dom,f k a (out,ch,dom)=xZ (bF (Template.mk x.size x.rels) (Con.mk c.rel c.scope) dom (p:Int) a) fun z=>if z then some (.go (out,ch,dom)) else xZ (ix dom v) fun z1=>xZ (aP N z1 a) fun z2=>xZ (ap out [ArcStep.mk v a (kc:Int)]) fun z3=>xZ (zV (dom.set v.toNat z2)) fun z4=>if z4 then some (.ret (F (z3,dom.set v.toNat z2))) else some (.go (z3,true,dom.set v.toNat z2)))
    (hg:∀ k a out dom,g k a (out,dom)=xZ (bE N x c dom (p:Int) a) fun z=>if (!z) then xZ (ix dom v) fun z1=>xZ (aN z1 a) fun z2=>xZ (ap out [ArcStep.mk v a (kc:Int)]) fun z3=>zR (σ:=Bool) (if true then xZ (ix (dom.set v.toNat z2) v) fun z4=>some (.nx ((z4.length:Int)==0)) else some (.nx false)) fun s=>if s then some (.ret (G (z3,dom.set v.toNat z2))) else some (.go (z3,dom.set v.toNat z2)) else some (.go (out,dom)))
    (dom:List (List Int)) (out:List ArcStep) (ch:Bool) (I:PInv K n B T D dom out ch) :
    cK (qT f (dom.getD v.toNat []) 0 (out,ch,dom)) (qT g (dom.getD v.toNat []) 0 (out,dom)) (xEi (fun s s'=>s'=(s.1,s.2.2)∧PInv K n B T (fun d=>D d∧Sup x c p v d) s.2.2 s.1 s.2.1) (fun r r'=>∃ q,r=F q∧r'=G q∧RQ K n B T q q)):=by
  rcases xGj F G hN hNT hT hc hp hv hK hf hg dom out ch I with ⟨o3,c3,d3,h1,h2,h3⟩ | ⟨q,h1,h2,h3⟩
  · exact⟨_,_,h1,h2,rfl,h3⟩
  · exact⟨_,_,h1,h2,q,rfl,rfl,h3⟩
def xAb (x:Template) (y:Instance) (k:Nat) (dom:List (List Int)):Prop:=∀ c∈y.cons.take k,∀ p v,c.scope[p]?=some v→Sup x c p v dom
theorem xKx {N:Nat} {K:List (List Int)→Prop} {x:Template} {y:Instance} {n:Nat} {dom:List (List Int)} (hK:∀ c∈y.cons,∀ p v,c.scope[p]?=some v→xLb K x c p v) (hK0:K dom) (hN:10≤N) (hy:∀ c∈y.cons,ConOk x c n) (hok:DomOk n (tot dom) dom) (hT:tot dom≤1000) (hNT:tot dom+1<N) (hn:n≤1000) (hNn:n<N) (hF:nB dom) :
    cK (gW N x y dom (fun d=>zV d)) (aH N x y dom true) (fun r r'=>r=r'∧DomOk n (tot dom) r.2∧r.1.length+tot r.2≤tot dom∧K r.2∧(nB r.2→xAb x y y.cons.length r.2)):=by
  obtain⟨T,hTd⟩:∃ T,T=tot dom:=⟨_,rfl⟩;rw[← hTd] at hok hT hNT ⊢;have hlen:=hok.len
  unfold gW aH
  rw[xOx dom (by omega) hF _ (by omega) (s0:=0) rfl,thn_nx];refine cK.thn (fun t t'=>t'.1=t.1∧t'.2.2=t.2.2∧DomOk n T t.2.2∧t.1.length+tot t.2.2≤T∧K t.2.2∧xAb x y y.cons.length t.2.2) (fun r r'=>RQ K n 0 T r r') (cK.whl (fun s s'=>∃ bf:Int,s'=(s.1,bf,s.2.2)∧(s.2.1=true↔bf≠(s.1.length:Int))∧DomOk n T s.2.2∧nB s.2.2∧s.1.length+tot s.2.2≤T∧K s.2.2∧(s.2.1=false→xAb x y y.cons.length s.2.2)) _ _ (fun s=>tot s.2.2+(if s.2.1 then 1 else 0)) ?_ ⟨-1,rfl,⟨fun _=>by simp,fun _=>rfl⟩,hok,hF,by simp [hTd],hK0,fun h=>nomatch h⟩ (fun s s' hR=>?_)) (fun t t' h=>?_) (fun r r' h=>⟨h.1,h.2.1,h.2.2.1,h.2.2.2.1,fun hf=>absurd hf h.2.2.2.2⟩)
  · simp only[if_true];omega
  · obtain⟨out,ch,dm⟩:=s
    obtain⟨bf,rfl,hb,ok,fl,hs,hk,hsu⟩:=hR;simp only at hb ok fl hs hk hsu ⊢
    cases ch with
    | false=>
      have hbf:bf=(out.length:Int):=by
        by_cases h:bf=(out.length:Int)
        · exact h
        · exact absurd (hb.2 h) (by simp)
      rw[if_neg (by simp),if_neg (by simp [hbf])];exact cK.s ⟨rfl,rfl,ok,hs,hk,hsu rfl⟩
    | true=>
      have I0:PInv K n out.length (out.length+tot dm) (xAb x y 0) dm out false:=⟨⟨ok.len,ok.nd,by omega⟩,fl,Nat.le_refl _,Nat.le_refl _,(fun h=>nomatch h),(fun _=>rfl),hk,fun _ c hc=>by simp at hc⟩;have hT2:out.length+tot dm≤T:=hs;obtain⟨T2,hT2d⟩:∃ T2,T2=out.length+tot dm:=⟨_,rfl⟩;rw[← hT2d] at I0 hT2;rw[if_pos rfl,if_pos (by simpa using hb.1 rfl)];refine cK.thn (fun s s'=>s'=(s.1,s.2.2)∧PInv K n out.length T2 (xAb x y y.cons.length) s.2.2 s.1 s.2.1) (fun r r'=>∃ q,r= .ret q∧r'= .ret q∧RQ K n 0 T2 q q) (cK.mono (cK.forL (fun k s s'=>s'=(s.1,s.2.2)∧PInv K n out.length T2 (xAb x y k) s.2.2 s.1 s.2.1) _ ⟨rfl,I0⟩ (fun j c s s' hj hR=>?_)) (fun a b h=>by rw[Nat.zero_add] at h;exact h)) (fun a b h=>?_) (fun r r' h=>?_)
      · obtain⟨o1,c1,d1⟩:=s
        obtain⟨rfl,I1⟩:=hR;have hcm:=List.mem_of_getElem? hj;have hc:=hy c hcm;rw[Nat.zero_add] at I1 ⊢;refine cK.thn (fun s s'=>s'=(s.1,s.2.2)∧PInv K n out.length T2 (xAb x y (j+1)) s.2.2 s.1 s.2.1) (fun r r'=>∃ q,r= .ret (.ret q)∧r'= .ret (.ret q)∧RQ K n 0 T2 q q) (cK.mono (cK.forL (fun k s s'=>s'=(s.1,s.2.2)∧PInv K n out.length T2 (fun d=>xAb x y j d∧∀ p v,p<k→c.scope[p]?=some v→Sup x c p v d) s.2.2 s.1 s.2.1) (fun r r'=>∃ q,r= .ret (.ret q)∧r'= .ret (.ret q)∧RQ K n 0 T2 q q) ⟨rfl,I1.mono (fun h=>⟨h,fun p v hp=>by omega⟩)⟩ (fun p v s s' hp hR=>?_)) (fun a b h=>?_)) (fun a b h=>?_) (fun r r' h=>?_)
        · obtain⟨o2,c2,d2⟩:=s
          obtain⟨rfl,I2⟩:=hR;simp only at I2 ⊢;have hpl:p<c.scope.length:=(List.getElem?_eq_some_iff.1 hp).1;have hv:=hc.sc v (List.mem_of_getElem? hp);have hl2:=I2.ok.len
          have hvn:v.toNat<d2.length:=by omega
          have hdl:(d2.getD v.toNat []).length≤1048576:=by
            have h9:d2.getD v.toNat []∈d2:=by rw[List.getD_eq_getElem?_getD,List.getElem?_eq_getElem hvn];exact List.getElem_mem hvn
            have:=pA h9;have:=I2.ok.le
            omega
          refine cK.l (ixD hv.1 (by omega)) (cK.r (ixD hv.1 (by omega)) (cK.l (rF _ hdl) (cK.r (own_eq _ hdl) ?_)));rw[Nat.zero_add] at I2 ⊢;refine cK.thn (fun s s'=>s'=(s.1,s.2.2)∧PInv K n out.length T2 (fun d=>(xAb x y j d∧∀ p' v,p'<p→c.scope[p']?=some v→Sup x c p' v d)∧Sup x c p v d) s.2.2 s.1 s.2.1) (fun r r'=>∃ q,r= .ret (.ret (.ret q))∧r'= .ret (.ret (.ret q))∧RQ K n 0 T2 q q) ?_ (fun a b h=>?_) (fun r r' h=>?_)
          · refine cK.mono (xNl (kc:=j) (B:=out.length) (F:=fun q=>Ctl.ret (Ctl.ret (Ctl.ret q))) (G:=fun q=>Ctl.ret (Ctl.ret (Ctl.ret q))) hN (show T2<N by omega) (by omega) hc hpl hv (hK c hcm p v hp) ?_ ?_ d2 o2 c2 I2) (fun a b h=>?_)
            · intro _ _ _ _ _;rfl
            · intro _ _ _ _;rfl
            · cases a<;>cases b<;>first | exact h.elim | (obtain⟨q,h1,h2,h3⟩:=h;exact⟨q,h1,h2,h3.1,h3.2.1,h3.2.2⟩) | exact h
          · obtain⟨o3,c3,d3⟩:=a
            obtain⟨rfl,h⟩:=h;refine cK.s ⟨rfl,h.mono (fun h=>⟨h.1.1,fun p' v' hp' hv'=>?_⟩)⟩
            by_cases e:p'=p
            · subst e
              rw[hp] at hv'
              cases hv'
              exact h.2
            · exact h.1.2 p' v' (by omega) hv'
          · obtain⟨q,rfl,rfl,h⟩:=h
            exact⟨q,rfl,rfl,h⟩
        · cases a<;>cases b<;>first | exact⟨h.1,h.2.mono (fun h c' hc'=>by
            rw[List.take_add_one,hj] at hc'
            rcases List.mem_append.1 hc' with hc' | hc'
            · exact h.1 c' hc'
            · simp only[Option.toList,List.mem_singleton] at hc'
              subst hc'
              exact fun p v hp=>h.2 p v (by rw[Nat.zero_add];exact(List.getElem?_eq_some_iff.1 hp).1) hp)⟩ | exact h
        · obtain⟨o3,c3,d3⟩:=a
          obtain⟨rfl,h⟩:=h;exact cK.s ⟨rfl,h⟩
        · obtain⟨q,rfl,rfl,h⟩:=h
          exact⟨q,rfl,rfl,h⟩
      · obtain⟨o3,c3,d3⟩:=a
        obtain⟨rfl,h⟩:=h;have h6:=h.sum;have h7:=h.ge;simp only at h h6 h7 ⊢;refine cK.s ⟨⟨(out.length:Int),rfl,?_,⟨h.ok.len,h.ok.nd,Nat.le_trans h.ok.le hT2⟩,h.full,(show o3.length+tot d3≤T by omega),h.k,h.con⟩,?_⟩
        · constructor
          · intro hc;have:=h.yes hc;show(out.length:Int)≠(o3.length:Int);omega
          · intro hc
            change (out.length:Int)≠(o3.length:Int) at hc
            cases hc3:c3 with
            | true=>rfl
            | false=>have:=h.no hc3;exact absurd (by omega) hc
        · cases hc3:c3 with
          | true=>have:=h.yes hc3;simp only[if_true];omega
          | false=>have:=h.no hc3;simp only[Bool.false_eq_true,if_false,if_true];omega
      · obtain⟨q,rfl,rfl,h1,h2,h3,h4⟩:=h
        exact⟨rfl,⟨h2.len,h2.nd,Nat.le_trans h2.le hT2⟩,by omega,h4⟩
  · obtain⟨h1,h2,h3,h4,h5,h6⟩:=h
    obtain⟨o,c,d⟩:=t;obtain⟨o',c',d'⟩:=t';simp only at h1 h2 h3 h4 h5 h6 ⊢;subst h1 h2;exact cK.s ⟨rfl,h3,h4,h5,fun _=>h6⟩
end Go.Proofs.YtncganhbpbehaaaGreat
namespace Go.Proofs.YtncganhbpbehaaaGreat
set_option linter.unusedVariables false
set_option linter.unusedSimpArgs false
theorem xLl {a b:Int}:mE a b<0↔a<b:=by
  unfold mE
  split
  · constructor<;>omega
  · split<;>constructor<;>omega
theorem mQ {a b:Int} {l m:List Int}:dD (a::l) (b::m)<0↔a<b∨a=b∧dD l m<0:=by
  rw[show dD (a::l) (b::m)=if mE a b≠0 then mE a b else dD l m from rfl]
  by_cases h:mE a b=0
  · rw[if_neg (by simp [h])]
    have:=lO.1 h;subst this
    constructor
    · exact fun h=>.inr ⟨rfl,h⟩
    · rintro (h | ⟨_,h⟩)
      · omega
      · exact h
  · rw[if_pos h,xLl]
    have:a≠b:=fun e=>h (lO.2 e)
    constructor
    · exact .inl
    · rintro (h | ⟨h,_⟩)
      · exact h
      · exact absurd h this
theorem lQ:∀ {l m:List Int},dD l m=0↔l=m
  | [],[]=>by simp [dD]
  | [],_::_=>by simp [dD]
  | _::_,[]=>by simp [dD]
  | a::l,b::m=>by
    rw[show dD (a::l) (b::m)=if mE a b≠0 then mE a b else dD l m from rfl]
    by_cases h:mE a b=0
    · rw[if_neg (by simp [h]),lQ]
      have:=lO.1 h
      simp [this]
    · rw[if_pos h]
      have:a≠b:=fun e=>h (lO.2 e)
      simp [this,h]
theorem lW:∀ {l m n:List Int},dD l m<0→dD m n<0→dD l n<0
  | [],[],_,h,_=>by simp [dD] at h
  | [],_::_,[],_,h=>by simp [dD] at h
  | [],_::_,_::_,_,_=>by simp [dD]
  | _::_,[],_,h,_=>by simp [dD] at h
  | _::_,_::_,[],_,h=>by simp [dD] at h
  | a::l,b::m,c::n,h1,h2=>by
    rw[mQ] at *
    rcases h1 with h1 | ⟨rfl,h1⟩
    · rcases h2 with h2 | ⟨rfl,h2⟩
      · exact .inl (by omega)
      · exact .inl h1
    · rcases h2 with h2 | ⟨rfl,h2⟩
      · exact .inl h2
      · exact .inr ⟨rfl,lW h1 h2⟩
def Asc (l:List (List Int)):Prop:=l.Pairwise fun a b=>dD a b<0
theorem xJw:∀ {l:List (List Int)},(∀ j t u,l[j]?=some t→l[j+1]?=some u→dD t u<0)→Asc l
  | [],_=>List.Pairwise.nil
  | [_],_=>List.pairwise_singleton _ _
  | a::b::l,h=>by
    have ih:Asc (b::l):=xJw (fun j t u ht hu=>h (j+1) t u (by simpa using ht) (by simpa using hu));have hab:dD a b<0:=h 0 a b rfl rfl;refine List.Pairwise.cons (fun c hc=>?_) ih
    rcases List.mem_cons.1 hc with rfl | hc
    · exact hab
    · exact lW hab (List.rel_of_pairwise_cons ih hc)
theorem Asc.lt {l:List (List Int)} (h:Asc l) {i j:Nat} {t u:List Int} (hij:i<j) (ht:l[i]?=some t) (hu:l[j]?=some u):dD t u<0:=by
  obtain⟨hi,rfl⟩:=List.getElem?_eq_some_iff.1 ht;obtain⟨hj,rfl⟩:=List.getElem?_eq_some_iff.1 hu;exact List.pairwise_iff_getElem.1 h i j hi hj hij
theorem Asc.ext:∀ {l m:List (List Int)},Asc l→Asc m→(∀ x,x∈l↔x∈m)→l=m
  | [],[],_,_,_=>rfl
  | [],b::m,_,_,h=>absurd ((h b).2 (by simp)) (by simp)
  | a::l,[],_,_,h=>absurd ((h a).1 (by simp)) (by simp)
  | a::l,b::m,hl,hm,h=>by
    have irr:∀ x:List Int,¬ dD x x<0:=fun x=>by rw[lQ.2 rfl];omega
    have hab:a=b:=by
      rcases List.mem_cons.1 ((h a).1 (by simp)) with e | h1
      · exact e
      · rcases List.mem_cons.1 ((h b).2 (by simp)) with e | h2
        · exact e.symm
        · exact absurd (lW (List.rel_of_pairwise_cons hm h1) (List.rel_of_pairwise_cons hl h2)) (irr _)
    subst hab
    congr 1
    refine Asc.ext (List.Pairwise.of_cons hl) (List.Pairwise.of_cons hm) (fun x=>⟨fun hx=>?_,fun hx=>?_⟩)
    · rcases List.mem_cons.1 ((h x).1 (by simp [hx])) with rfl | h1
      · exact absurd (List.rel_of_pairwise_cons hl hx) (irr _)
      · exact h1
    · rcases List.mem_cons.1 ((h x).2 (by simp [hx])) with rfl | h1
      · exact absurd (List.rel_of_pairwise_cons hm hx) (irr _)
      · exact h1
theorem xGd (d v:List Int):fG d v=some (decide (d=v)):=by
  unfold fG
  by_cases hl:d.length=v.length
  · rw[if_neg (by simp [hl])]
    rw[dV (ρ:=Bool) (fun k x=>if (v[k]? != some x)=true then some false else none) (fun j x hj=>by
      have hjl:=(List.getElem?_eq_some_iff.1 hj).1
      have hv:v[0+j]?=some (v[j]'(by omega)):=by rw[Nat.zero_add];exact List.getElem?_eq_getElem _
      simp only[qX hv,bnd_s,hv]
      by_cases hx:x=v[j]'(by omega)
      · subst hx;simp [rS]
      · have:(x != v[j]'(by omega))=true:=by simpa using hx
        have h2:(some (v[j]'(by omega)) != some x)=true:=by simpa using fun e=>hx e.symm
        rw[this,h2]
        rfl)]
    have key:∀ (d:List Int) (k:Nat),k+d.length=v.length→fnd (fun k x=>if (v[k]? != some x)=true then some false else none) d k=if d=v.drop k then none else some false:=by
      intro d
      induction d with
      | nil=>
        intro k hk;have:v.drop k=[]:=List.drop_eq_nil_of_le (by simp at hk;omega);rw[this]
        rfl
      | cons x d ih=>
        intro k hk
        have hkl:k<v.length:=by simp at hk;omega
        have hd:v.drop k=v[k]::v.drop (k+1):=List.drop_eq_getElem_cons hkl
        unfold fnd
        rw[hd,List.getElem?_eq_getElem hkl]
        by_cases hx:x=v[k]
        · have e1:(some v[k] != some x)=false:=by rw[hx];simp
          rw[e1,if_neg (by simp),ih (k+1) (by simp at hk;omega),hx];simp only[List.cons.injEq,true_and]
        · have h2:(some v[k] != some x)=true:=by simpa using fun e=>hx e.symm
          rw[h2,if_pos rfl,if_neg (fun e=>hx (List.cons.inj e).1)]
    rw[key d 0 (by omega),List.drop_zero]
    by_cases hd:d=v
    · rw[if_pos hd];simp [xAd,hd]
    · rw[if_neg hd];simp [xAd,hd]
  · rw[if_pos (by simpa using fun e=>hl (by omega))]
    have:d≠v:=fun e=>hl (by rw[e])
    simp [this]
theorem xIk (r:Rel) (t:List Int):jK r t=some (decide (t∈r.tuples)):=by
  unfold jK
  rw[dV (ρ:=Bool) (fun _ x=>if (fun y=>decide (y=t)) x then some true else none) (fun j x hj=>by
    simp only[xGd,bnd_s]
    by_cases hx:x=t<;>simp [hx,rS])]
  rw[mM]
  by_cases h:t∈r.tuples
  · rw[if_pos (by simpa using h)];simp [xAd,h]
  · rw[if_neg (by simpa using h)];simp [xAd,h]
theorem tV {L:List (List Int)} {t:List Int} (hL:Asc L) (hlen:L.length≤1000000) {f:List Int→List Int→Option Int} (hf:∀ a b,f a b=some (dD a b)):∀ (g lo hi N:Nat),hi - lo≤g→g+1≤N→lo≤hi→hi≤L.length→(∀ i x,i<lo→L[i]?=some x→dD x t<0)→(∀ i x,hi≤i→L[i]?=some x→¬ dD x t<0) →
    ∃ k:Nat,k≤L.length∧(∀ i x,i<k→L[i]?=some x→dD x t<0)∧(∀ i x,k≤i→L[i]?=some x→¬ dD x t<0) ∧
    fA (σ:=Int×Int) (ρ:=Int×Bool) (fun(s:Int×Int)=>
    match s with
    | (s39,s41)=>
    if (decide (s39<s41)) then
     xZ (ck (s39+s41)) fun z54=>
     xZ (nn z54) fun z56=>
     xZ (ix L (z56 / 2)) fun z59=>
     xZ (f z59 t) fun z65=>
     if (decide (z65<0)) then
      xZ (ck ((z56 / 2)+1)) fun z68=>
      some (.go (z68,s41))
     else
      some (.go (s39,(z56 / 2)))
    else
     some (.brk (s39,s41))) N ((lo:Int),(hi:Int))=some (.nx ((k:Int),(k:Int)))
  | g,lo,hi,N,hg,hN,hlh,hh,h1,h2=>by
    obtain⟨M,rfl⟩:∃ M,N=M+1:=⟨N - 1,by omega⟩
    by_cases hlt:lo<hi
    · cases g with
      | zero=>omega
      | succ g=>
      have hm:(lo+hi) / 2<L.length:=by omega
      have e2:((lo:Int)+(hi:Int)) / 2=(((lo+hi) / 2:Nat):Int):=by omega
      have hx:L[(lo+hi) / 2]?=some L[(lo+hi) / 2]:=List.getElem?_eq_getElem hm
      by_cases hc:dD L[(lo+hi) / 2] t<0
      · obtain⟨k,k1,k2,k3,k4⟩:=tV hL hlen hf g ((lo+hi) / 2+1) hi M (by omega) (by omega) (by omega) hh (fun i x hi' hix=>by
          rcases Nat.lt_or_ge i ((lo+hi) / 2) with h | h
          · exact lW (hL.lt h hix hx) hc
          · obtain rfl:i=(lo+hi) / 2:=by omega
            rw[hx] at hix;rw[← Option.some.inj hix]
            exact hc) h2
        refine⟨k,k1,k2,k3,?_⟩
        rw[iA (s':=((((lo+hi) / 2+1:Nat):Int),(hi:Int))) (by
          have h3:(lo:Int)<(hi:Int):=by omega
          simp only[h3,decide_true,if_true,kE (x:=(lo:Int)+(hi:Int)) (by omega) (by omega),bnd_s,xJc (x:=(lo:Int)+(hi:Int)) (by omega),e2,qX hx,hf,hc,kE (x:=(((lo+hi) / 2:Nat):Int)+1) (by omega) (by omega)]
          rfl)]
        exact k4
      · obtain⟨k,k1,k2,k3,k4⟩:=tV hL hlen hf g lo ((lo+hi) / 2) M (by omega) (by omega) (by omega) (by omega) h1 (fun i x hi' hix=>by
          rcases Nat.lt_or_ge ((lo+hi) / 2) i with h | h
          · exact fun h4=>hc (lW (hL.lt h hx hix) h4)
          · obtain rfl:i=(lo+hi) / 2:=by omega
            rw[hx] at hix;rw[← Option.some.inj hix]
            exact hc)
        refine⟨k,k1,k2,k3,?_⟩
        rw[iA (s':=((lo:Int),(((lo+hi) / 2:Nat):Int))) (by
          have h3:(lo:Int)<(hi:Int):=by omega
          simp only[h3,decide_true,if_true,kE (x:=(lo:Int)+(hi:Int)) (by omega) (by omega),bnd_s,xJc (x:=(lo:Int)+(hi:Int)) (by omega),e2,qX hx,hf,hc,decide_false,Bool.false_eq_true,if_false])]
        exact k4
    · obtain rfl:lo=hi:=by omega
      refine⟨lo,hh,h1,h2,?_⟩;rw[fC]
      simp
theorem xOl {N:Nat} {r:Rel} {t:List Int} (hr:Asc r.tuples) (hlen:r.tuples.length≤1000) (hN:1002≤N):iS N r t=some (decide (t∈r.tuples)):=by
  unfold iS zF
  have hf:∀ a b,gD a b=some (dD a b):=fun a b=>by unfold gD;rw[yN];rfl
  obtain⟨k,k1,k2,k3,k4⟩:=tV (t:=t) hr (by omega) hf r.tuples.length 0 r.tuples.length N (by omega) (by omega) (by omega) (by omega) (fun i x hi=>absurd hi (by omega)) (fun i x hi hx=>absurd (List.getElem?_eq_some_iff.1 hx).1 (by omega));rw[show((0:Nat):Int)=0 from rfl] at k4;rw[k4,thn_nx]
  by_cases hk:k<r.tuples.length
  · have hx:r.tuples[k]?=some r.tuples[k]:=List.getElem?_eq_getElem hk
    have h1:(k:Int)<(r.tuples.length:Int):=by omega
    simp only[h1,decide_true,if_true,qX hx,bnd_s,hf,thn_nx]
    congr 1
    rw[show(dD r.tuples[k] t==0)=decide (dD r.tuples[k] t=0) from rfl];refine decide_eq_decide.2 ⟨fun h=>?_,fun h=>?_⟩
    · rw[← lQ.1 h];exact List.getElem_mem hk
    · obtain⟨j,hj,e⟩:=List.getElem_of_mem h
      have hjx:r.tuples[j]?=some t:=by rw[List.getElem?_eq_getElem hj,e]
      rcases Nat.lt_trichotomy j k with h5 | h5 | h5
      · have:=k2 j t h5 hjx
        rw[lQ.2 rfl] at this
        omega
      · subst h5
        rw[e];exact lQ.2 rfl
      · exact absurd (hr.lt h5 hx hjx) (k3 k _ (Nat.le_refl _) hx)
  · have h1:¬ (k:Int)<(r.tuples.length:Int):=by omega
    simp only[h1,decide_false,Bool.false_eq_true,if_false,thn_nx,bnd_s]
    have:t ∉ r.tuples:=fun h=>by
      obtain⟨j,hj,e⟩:=List.getElem_of_mem h;have:=k2 j t (by omega) (by rw[List.getElem?_eq_getElem hj,e]);rw[lQ.2 rfl] at this
      omega
    simp [this]
def cY (T:Nat):Nat→List (List Int)
  | 0=>[[]]
  | n+1=>(List.range T).flatMap fun(a:Nat)=>(cY T n).map (fun l=>(a:Int)::l)
theorem xAc:∀ T∈[1,2,3,4],∀ n∈[1,2,3,4],lY (T:Nat) (n:Nat)=some ((cY T n).length:Int)∧dB 10 (T:Nat) (n:Nat)=some ((cY T n).length:Int)∧(cY T n).length≤256∧(List.range (cY T n).length).map (fun(k:Nat)=>bY 10 (T:Nat) (n:Nat) (k:Int))=(cY T n).map some:=by decide +kernel
theorem iN {T:Nat}:∀ {n:Nat} {l:List Int},l∈cY T n↔l.length=n∧∀ a∈l,0≤a∧a<T
  | 0,l=>by
    unfold cY
    constructor
    · intro h;simp at h;subst h;simp
    · intro h
      have:=List.length_eq_zero_iff.1 h.1
      simp [this]
  | n+1,l=>by
    unfold cY
    rw[List.mem_flatMap]
    constructor
    · rintro ⟨a,ha,h⟩
      obtain⟨m,hm,rfl⟩:=List.mem_map.1 h;obtain⟨h1,h2⟩:=iN.1 hm;rw[List.mem_range] at ha;refine⟨by simp [h1],fun b hb=>?_⟩
      rcases List.mem_cons.1 hb with rfl | hb
      · exact⟨by omega,by omega⟩
      · exact h2 b hb
    · rintro ⟨h1,h2⟩
      cases l with
      | nil=>simp at h1
      | cons a l=>
        obtain⟨h3,h4⟩:=h2 a (by simp);refine⟨a.toNat,List.mem_range.2 (by omega),List.mem_map.2 ⟨l,iN.2 ⟨by simpa using h1,fun b hb=>h2 b (by simp [hb])⟩,?_⟩⟩;rw[Int.toNat_of_nonneg h3]
theorem xDw (T:Nat):∀ n,Asc (cY T n)
  | 0=>List.pairwise_singleton _ _
  | n+1=>by
    unfold cY Asc
    rw[List.pairwise_flatMap];refine⟨fun a _=>?_,?_⟩
    · rw[List.pairwise_map]
      exact(xDw T n).imp (fun h=>mQ.2 (.inr ⟨rfl,h⟩))
    · refine(List.pairwise_lt_range (n:=T)).imp (fun {a b} hab x hx y hy=>?_)
      obtain⟨m,_,rfl⟩:=List.mem_map.1 hx;obtain⟨m',_,rfl⟩:=List.mem_map.1 hy;exact mQ.2 (.inl (by omega))
end Go.Proofs.YtncganhbpbehaaaGreat
namespace Go.Proofs.YtncganhbpbehaaaGreat
set_option linter.unusedVariables false
set_option linter.unusedSimpArgs false
def ctlF {σ ρ:Type} (s:σ):Option ρ→Ctl σ ρ
  | none=>.go s
  | some r=>.ret r
def outF {σ ρ:Type} (s:σ):Option ρ→Out σ ρ
  | none=>.nx s
  | some r=>.ret r
theorem xBo {σ ρ:Type} {b:Nat→σ→Option (Ctl σ ρ)} {s:σ} (q:Nat→Option ρ):∀ {m k:Nat},(∀ j,k≤j→j<k+m→b j s=some (ctlF s (q j)))→aS b m k s=some (outF s ((List.range' k m).findSome? q))
  | 0,k,_=>rfl
  | m+1,k,h=>by
    have h1:=h k (Nat.le_refl _) (by omega);have ih:=xBo (b:=b) (s:=s) q (m:=m) (k:=k+1) (fun j h2 h3=>h j (by omega) (by omega));rw[List.range'_succ,List.findSome?_cons]
    cases hq:q k with
    | none=>rw[hq] at h1;rw[fQ h1];exact ih
    | some r=>rw[hq] at h1;rw[xCy h1];rfl
theorem yA {α:Type} {b:Nat→α→Unit→Option (Ctl Unit Bool)} (p:α→Bool) {l:List α} (h:∀ j x,l[j]?=some x→b j x ()=some (if p x then .go () else .ret false)) :
    zR (qT b l 0 ()) (fun _=>some true)=some (l.all p):=by
  rw[dV (ρ:=Bool) (fun _ x=>if (fun y=>!p y) x then some false else none) (fun j x hj=>by
    rw[Nat.zero_add,h j x hj]
    cases hp:p x<;>simp [hp,rS]),mM]
  by_cases hp:l.all p=true
  · have:l.any (fun y=>!p y)=false:=by
      rw[List.any_eq_false];intro x hx
      simp [List.all_eq_true.1 hp x hx]
    rw[this,hp]
    rfl
  · have h2:l.all p=false:=by simpa using hp
    have:l.any (fun y=>!p y)=true:=by
      rw[← List.not_all_eq_any_not,h2]
      rfl
    rw[this,h2]
    rfl
def atV (vs args:List Int):List Int:=args.map fun i=>vs.getD i.toNat 0
theorem xHl {ρ:Type} (vs:List Int):∀ (args:List Int) (k:Nat) (s:List Int),(∀ i∈args,0≤i∧i<vs.length)→s.length+args.length≤1000000 →
    qT (σ:=(List Int)) (ρ:=ρ) (fun(k44:Nat) (x46:Int) (s38:(List Int))=>
   xZ (ix vs x46) fun z54=>
   xZ (ap s38 ([z54])) fun z61=>
   some (.go z61)) args k s=some (.nx (s++atV vs args))
  | [],_,s,_,_=>by simp [atV,qT]
  | i::args,k,s,h,hs=>by
    obtain⟨h0,h1⟩:=h i (by simp)
    have hx:vs[i.toNat]?=some (vs.getD i.toNat 0):=by
      rw[List.getD_eq_getElem?_getD,List.getElem?_eq_getElem (by omega)]
      rfl
    rw[List.length_cons] at hs
    rw[kB (s':=s++[vs.getD i.toNat 0]) (by
      simp only[gN h0 hx,bnd_s,zX (l:=s) (m:=[vs.getD i.toNat 0]) (by simp only[List.length_cons,List.length_nil];omega)])]
    rw[xHl vs args (k+1) _ (fun j hj=>h j (by simp [hj])) (by rw[List.length_append,List.length_singleton];omega)]
    simp [atV]
theorem xDn {vs args:List Int} (h:∀ i∈args,0≤i∧i<vs.length) (hl:args.length≤1000):mB vs args=some (atV vs args):=by
  unfold mB
  rw[xHl vs args 0 [] h (by simp only[List.length_nil];omega),thn_nx,List.nil_append]
theorem xIi {vs args:List Int} (h:∀ i∈args,0≤i∧i<vs.length) (hl:args.length≤1000):mF vs args=some (atV vs args):=xDn h hl
def xMh (T:Nat) (r:Rel):Prop:=∃ n:Nat,r.arity=n∧1≤n∧n≤4∧Asc r.tuples∧∀ t∈r.tuples,t∈cY T n
theorem xKa {T:Nat} {r:Rel} {n:Nat} (h:Asc r.tuples) (hm:∀ t∈r.tuples,t∈cY T n):r.tuples=(cY T n).filter fun t=>decide (t∈r.tuples):=
  Asc.ext h ((xDw T n).filter _) (fun x=>⟨fun hx=>List.mem_filter.2 ⟨hm x hx,by simpa using hx⟩,fun hx=>by simpa using (List.mem_filter.1 hx).2⟩)
theorem tK {T n:Nat} (hT:1≤T∧T≤4) (hn:1≤n∧n≤4):(cY T n).length≤256:=(xAc T (by simp;omega) n (by simp;omega)).2.2.1
theorem xMh.len {T:Nat} {r:Rel} (hT:1≤T∧T≤4) (h:xMh T r):r.tuples.length≤256:=by
  obtain⟨n,_,h1,h2,h3,h4⟩:=h;rw[xKa h3 h4];exact Nat.le_trans (List.length_filter_le _ _) (tK hT ⟨h1,h2⟩)
structure TV (T:Nat) (u:Template):Prop where
  s:u.size=T
  t:1≤T∧T≤4
  r:∀ r∈u.rels,xMh T r
  n:u.rels.length≤6
def AV (u:Template) (n:Nat) (a:Atom):Prop:=(∀ i∈a.args,0≤i∧i<n)∧((a.rel= -1∧a.args.length=2)∨∃ r:Rel,0≤a.rel∧u.rels[a.rel.toNat]?=some r∧r∈u.rels∧(a.args.length:Int)=r.arity)
theorem AV.len {T:Nat} {u:Template} {n:Nat} {a:Atom} (hu:TV T u) (h:AV u n a):1≤a.args.length∧a.args.length≤4:=by
  rcases h.2 with ⟨_,h⟩ | ⟨r,_,_,h1,h2⟩
  · omega
  · obtain⟨m,e,h3,h4,_⟩:=hu.r r h1
    omega
def nH (u:Template) (a:Atom) (vs:List Int):Bool:=if a.rel= -1 then decide ((atV vs a.args).getD 0 0=(atV vs a.args).getD 1 0) else decide (atV vs a.args∈(u.rels.getD a.rel.toNat default).tuples)
theorem xLa {T N:Nat} {u:Template} {n:Nat} {a:Atom} {vs:List Int} (hu:TV T u) (h:AV u n a) (hv:∀ i∈a.args,i<vs.length) (hN:1002≤N):bD N u a vs=some (nH u a vs):=by
  have hl:=h.len hu;have h2:=xIi (vs:=vs) (fun i hi=>⟨(h.1 i hi).1,hv i hi⟩) (by omega)
  unfold bD nH
  rw[h2,bnd_s]
  rcases h.2 with ⟨e,hl2⟩ | ⟨r,h0,hr,hm,ha⟩
  · have hlen:(atV vs a.args).length=2:=by rw[atV,List.length_map,hl2]
    obtain⟨x,y,e2⟩:∃ x y,atV vs a.args=[x,y]:=by
      match h:atV vs a.args,hlen with
      | [x,y],_=>exact⟨x,y,rfl⟩
    rw[e2,e]
    have hb:(x==y)=decide (x=y):=by by_cases hxy:x=y<;>simp [hxy]
    simp [ix,hb]
  · have hne:(a.rel == -1)=false:=by rw[beq_eq_false_iff_ne];omega
    have hne':¬ a.rel= -1:=by omega
    obtain⟨m,_,_,_,hasc,_⟩:=hu.r r hm
    have hg:u.rels.getD a.rel.toNat default=r:=by rw[List.getD_eq_getElem?_getD,hr];rfl
    simp only[hne,Bool.false_eq_true,if_false,if_neg hne'];rw[gN h0 hr,bnd_s,xOl hasc (by have:=(hu.r r hm).len hu.t;omega) hN,bnd_s,hg]
def mx (l:List Int):Int:=l.foldl (fun s x=>if x<s then s else x) 0
theorem xHs {l:List Int}:∀ {s:Int},(s≤l.foldl (fun s x=>if x<s then s else x) s)∧∀ x∈l,x≤l.foldl (fun s x=>if x<s then s else x) s:=by
  induction l with
  | nil=>intro s;exact⟨Int.le_refl _,by simp⟩
  | cons y l ih=>
    intro s;rw[List.foldl_cons];obtain⟨h1,h2⟩:=ih (s:=if y<s then s else y)
    have hs:s≤(if y<s then s else y)∧y≤(if y<s then s else y):=by split<;>omega
    refine⟨Int.le_trans hs.1 h1,fun x hx=>?_⟩
    rcases List.mem_cons.1 hx with rfl | hx
    · exact Int.le_trans hs.2 h1
    · exact h2 x hx
theorem xNx {l:List Int}:∀ {s:Int},l.foldl (fun s x=>if x<s then s else x) s=s∨l.foldl (fun s x=>if x<s then s else x) s∈l:=by
  induction l with
  | nil=>intro s;exact .inl rfl
  | cons y l ih=>
    intro s;rw[List.foldl_cons]
    rcases ih (s:=if y<s then s else y) with h | h
    · rw[h]
      split
      · exact .inl rfl
      · exact .inr (by simp)
    · exact .inr (by simp [h])
theorem xNq {l:List Int} {n:Int} (h:∀ i∈l,0≤i∧i<n) (hn:0<n):0≤mx l∧mx l<n:=by
  refine⟨xHs.1,?_⟩
  rcases xNx (l:=l) (s:=0) with e | e
  · unfold mx;rw[e];exact hn
  · exact(h _ e).2
theorem xEm {ρ : Type} : ∀ (l : List Int) (k : Nat) (s : Int), qT (σ := Int) (ρ := ρ) (fun (k205 : Nat) (x207 : Int) (s201 : Int) =>
      xZ (jT s201 x207) fun z235=>
      some (.go z235)) l k s=some (.nx (l.foldl (fun s x=>if x<s then s else x) s))
  | [],_,_=>rfl
  | x::l,k,s=>by
    rw[kB (s':=if x<s then s else x) (by
      unfold jT
      by_cases h:x<s<;>simp [h]),xEm l]
    rfl
theorem xEo {ρ:Type} (x0:Int) (L:List Int):∀ (l:List Int) (k:Nat) (s:Int),L.drop k=l→aS (σ:=Int) (ρ:=ρ) (fun(k41:Nat) (s37:Int)=>
   xZ (ix (x0::L) (1+(k41:Int))) fun z48=>
   some (.go (if s37<z48 then z48 else s37))) l.length k s=some (.nx (l.foldl (fun s x=>if x<s then s else x) s))
  | [],_,_,_=>rfl
  | x::l,k,s,h=>by
    have hx:(x0::L)[1+k]?=some x:=by
      rw[Nat.add_comm,List.getElem?_cons_succ,← List.head?_drop,h]
      rfl
    have e:(1:Int)+(k:Int)=((1+k:Nat):Int):=by omega
    rw[List.length_cons,fQ (s':=if x<s then s else x) (by
      rw[e,qX hx,bnd_s]
      by_cases h1:x<s
      · rw[if_neg (by omega),if_pos h1]
      · rw[if_neg h1]
        by_cases h2:s<x
        · rw[if_pos h2]
        · rw[if_neg h2,show s=x by omega]),xEo x0 L l (k+1) _ (by rw[← List.drop_drop,h];rfl)]
    rfl
theorem xOd {l:List Int} (h:∀ i∈l,0≤i) (hl:1≤l.length):kY l=some (mx l):=by
  cases l with
  | nil=>simp at hl
  | cons x l=>
    unfold kY
    have h1:¬ (((x::l).length:Nat):Int)<1:=by simp;omega
    have h2:((((x::l).length:Nat):Int) - 1).toNat=l.length:=by simp
    rw[if_neg (by simpa using h1),thn_nx,show ix (x::l) 0=some x from rfl,bnd_s,h2,xEo x l l 0 x rfl,thn_nx]
    unfold mx
    rw[List.foldl_cons];have:=h x (by simp)
    by_cases h3:x<0
    · omega
    · rw[if_neg h3]
end Go.Proofs.YtncganhbpbehaaaGreat
namespace Go.Proofs.YtncganhbpbehaaaGreat
set_option linter.unusedVariables false
set_option linter.unusedSimpArgs false
structure FX (u:Template) (f:Formula):Prop where
  f0:1≤f.free∧f.free≤10
  v0:f.free≤f.vars∧f.vars≤10
  n:f.atoms.length≤24
  a:∀ a∈f.atoms,AV u f.vars.toNat a
def bA (u:Template) (f:Formula) (vs:List Int):Bool:=f.atoms.all fun a=>!decide (mx a.args=(vs.length:Int) - 1) || nH u a vs
theorem AV.below {u:Template} {n:Nat} {a:Atom} {vs:List Int} (h:AV u n a) (hm:mx a.args=(vs.length:Int) - 1):∀ i∈a.args,i<vs.length:=fun i hi=>by
  have:=(xHs (l:=a.args) (s:=0)).2 i hi
  unfold mx at hm
  omega
def yE (V:Nat) (atoms:List Atom):List (List Atom):=(List.range V).map fun(j:Nat)=>atoms.filter fun a=>decide (mx a.args=(j:Int))
theorem xEy {ρ:Type} {u:Template} {V:Nat} {T:Nat} (hu:TV T u) (hV:1≤V):∀ (l p:List Atom) (k:Nat),(∀ a∈l,AV u V a)→p.length+l.length≤100 →
    qT (σ:=List (List Atom)) (ρ:=ρ) (fun(k:Nat) (a:Atom) (s:List (List Atom))=>
   xZ (kY a.args) fun m=>
   xZ (ix s m) fun y=>
   xZ (ap y [a]) fun u=>
   some (.go (s.set m.toNat u))) l k (yE V p)=some (.nx (yE V (p++l)))
  | [],p,_,_,_=>by simp [qT]
  | a::l,p,k,h,hl=>by
    have ha:=h a (by simp);have hal:=ha.len hu;have hm:=xNq ha.1 (by omega);rw[List.length_cons] at hl
    have hlt:(mx a.args).toNat<V:=by omega
    have hy:(yE V p)[(mx a.args).toNat]?=some (p.filter fun b=>decide (mx b.args=mx a.args)):=by
      unfold yE
      rw[List.getElem?_map,List.getElem?_range hlt,Option.map_some,Int.toNat_of_nonneg hm.1]
    have hyl:(p.filter fun b=>decide (mx b.args=mx a.args)).length≤p.length:=List.length_filter_le _ _
    rw[kB (s':=yE V (p++[a])) (by
      rw[xOd (fun i hi=>(ha.1 i hi).1) hal.1,bnd_s,gN hm.1 hy,bnd_s,zX (by simp only[List.length_cons,List.length_nil];omega),bnd_s]
      congr 2
      apply List.ext_getElem?
      intro j
      unfold yE
      by_cases hj:j<V
      · rw[List.getElem?_set]
        by_cases e:(mx a.args).toNat=j
        · rw[if_pos e,if_pos (by simpa using hlt),List.getElem?_map,List.getElem?_range hj,Option.map_some]
          have e2:mx a.args=(j:Int):=by omega
          rw[List.filter_append,List.filter_cons,if_pos (by simpa using e2),e2]
          rfl
        · rw[if_neg e,List.getElem?_map,List.getElem?_map,List.getElem?_range hj,Option.map_some,Option.map_some]
          have e2:¬ mx a.args=(j:Int):=by omega
          rw[List.filter_append,List.filter_cons,if_neg (by simpa using e2),List.filter_nil,List.append_nil]
      · rw[List.getElem?_eq_none (by simp;omega),List.getElem?_eq_none (by simp;omega)])]
    rw[xEy hu hV l (p++[a]) (k+1) (fun b hb=>h b (by simp [hb])) (by rw[List.length_append,List.length_singleton];omega)]
    simp
def wL (u:Template) (f:Formula):solver:=⟨u,f.vars,yE f.vars.toNat f.atoms⟩
theorem xEh {T:Nat} {u:Template} {f:Formula} (hu:TV T u) (hf:FX u f):fL u f.vars f.atoms=some (wL u f):=by
  have h1:=hf.f0;have h2:=hf.v0
  unfold fL
  have hz:mkz ([]:List Atom) f.vars=some (yE f.vars.toNat []):=by
    unfold mkz
    rw[if_pos ⟨by omega,by omega⟩]
    congr 1
    unfold yE
    apply List.ext_getElem?
    intro j
    by_cases hj:j<f.vars.toNat
    · rw[List.getElem?_map,List.getElem?_range hj,List.getElem?_replicate,if_pos hj]
      rfl
    · rw[List.getElem?_eq_none (by simp;omega),List.getElem?_eq_none (by simp;omega)]
  rw[hz,bnd_s,xEy hu (by omega) f.atoms [] 0 hf.a (by have:=hf.n;simp only[List.length_nil];omega),thn_nx]
  rfl
theorem xDc (l:List Atom) (p:Atom→Bool) (f:Atom→Option Bool) (hf:∀ x∈l,f x=some (p x)):kH l f=some (l.any p):=by
  obtain⟨i,h1,h2⟩:=jL l p f hf
  unfold kH aO
  rw[h1,bnd_s,h2]
theorem xCd {T N:Nat} {u:Template} {f:Formula} {vs:List Int} (hu:TV T u) (hf:FX u f) (hN:1002≤N) (hl:1≤vs.length∧(vs.length:Int)≤f.vars):aU N (wL u f) vs=some (bA u f vs):=by
  have h2:=hf.v0
  have e:(vs.length:Int) - 1=((vs.length - 1:Nat):Int):=by omega
  have hd:(wL u f).due[vs.length - 1]?=some (f.atoms.filter fun a=>decide (mx a.args=((vs.length - 1:Nat):Int))):=by
    show(yE f.vars.toNat f.atoms)[vs.length - 1]?=_
    unfold yE
    rw[List.getElem?_map,List.getElem?_range (by omega)]
    rfl
  unfold aU
  rw[kE (by omega) (by omega),bnd_s,e,qX hd,bnd_s]
  rw[xDc _ (fun a=>!nH u a vs) _ (fun a ha=>by
    obtain⟨h3,h4⟩:=List.mem_filter.1 ha
    have h5:mx a.args=((vs.length - 1:Nat):Int):=by simpa using h4
    have hm:=hf.a a h3
    unfold fE
    have:=xLa hu hm (vs:=vs) (hm.below (h5.trans e.symm)) hN
    change xZ (bD N u a vs) _=_
    rw[this,bnd_s]),bnd_s]
  unfold bA
  rw[e]
  congr 1
  induction f.atoms with
  | nil=>rfl
  | cons a l ih=>
    by_cases h:mx a.args=((vs.length - 1:Nat):Int)
    · rw[List.filter_cons,if_pos (by simpa using h),List.any_cons,List.all_cons,← ih,decide_eq_true h]
      cases nH u a vs<;>simp
    · rw[List.filter_cons,if_neg (by simpa using h),List.all_cons,← ih,decide_eq_false h]
      simp
def iZ (u:Template) (f:Formula):Nat→List Int→Option (List Int)
  | 0,vs=>some vs
  | d+1,vs=>(List.range' 0 u.size.toNat).findSome? fun(a:Nat)=>if bA u f (vs++[(a:Int)]) then iZ u f d (vs++[(a:Int)]) else none
theorem walk_eq {T:Nat} {u:Template} {f:Formula} (hu:TV T u) (hf:FX u f):∀ (d N:Nat) (vs st:List Int),(vs.length:Int)+d=f.vars→d+1003≤N→aI (fun a _=>some (false,a)) N (wL u f) vs st=some (!(iZ u f d vs).isSome,(iZ u f d vs).getD st)
  | 0,N,vs,st,hd,hN=>by
    obtain⟨M,rfl⟩:∃ M,N=M+1:=⟨N - 1,by omega⟩;have h2:=hf.v0;rw[aI,if_pos (by show((vs.length:Int)==f.vars)=true;simp;omega)]
    unfold vA
    rw[zX (by simp only[List.length_nil];omega),bnd_s,bnd_s,List.nil_append]
    rfl
  | d+1,N,vs,st,hd,hN=>by
    obtain⟨M,rfl⟩:∃ M,N=M+1:=⟨N - 1,by omega⟩;have h2:=hf.v0;have ih:=walk_eq hu hf d M;rw[aI,if_neg (by show ¬ ((vs.length:Int)==f.vars)=true;simp;omega)]
    have hq:=xBo (σ:=List Int) (ρ:=Bool×List Int) (s:=st) (k:=0) (m:=u.size.toNat) (b:=fun(k60:Nat) (s:List Int)=>
      xZ (zP vs) fun z66=>
      xZ (ap z66 ([(k60:Int)])) fun z73=>
      xZ (aU M (wL u f) z73) fun z86=>
      if z86 then xZ (aI (fun a _=>some (false,a)) M (wL u f) z73 s) fun z89=>
        if z89.1 then some (.go z89.2) else some (.ret (false,z89.2))
      else some (.go s)) (fun(a:Nat)=>(if bA u f (vs++[(a:Int)]) then iZ u f d (vs++[(a:Int)]) else none).map fun o=>(false,o)) (fun a _ _=>by
      unfold zP
      rw[bnd_s,zX (by simp only[List.length_cons,List.length_nil];omega),bnd_s]
      have hl:(vs++[(a:Int)]).length=vs.length+1:=by simp
      rw[xCd hu hf (by omega) (by rw[hl];omega),bnd_s]
      by_cases hs:bA u f (vs++[(a:Int)])=true
      · rw[hs,if_pos rfl,if_pos rfl,ih _ _ (by rw[hl];push_cast;omega) (by omega),bnd_s]
        cases iZ u f d (vs++[(a:Int)])<;>rfl
      · have hs':bA u f (vs++[(a:Int)])=false:=by simpa using hs
        rw[hs',if_neg (by simp),if_neg (by simp)]
        rfl)
    show zR (aS _ u.size.toNat 0 st) _=_
    rw[hq]
    have hmap:∀ (l:List Nat),l.findSome? (fun(a:Nat)=>(if bA u f (vs++[(a:Int)]) then iZ u f d (vs++[(a:Int)]) else none).map fun o=>(false,o))=(l.findSome? (fun(a:Nat)=>if bA u f (vs++[(a:Int)]) then iZ u f d (vs++[(a:Int)]) else none)).map fun o=>(false,o):=fun l=>by
      induction l with
      | nil=>rfl
      | cons a l ih2=>
        rw[List.findSome?_cons,List.findSome?_cons,ih2]
        cases (if bA u f (vs++[(a:Int)]) then iZ u f d (vs++[(a:Int)]) else none)<;>rfl
    rw[hmap];rw[show iZ u f (d+1) vs=(List.range' 0 u.size.toNat).findSome? (fun(a:Nat)=>if bA u f (vs++[(a:Int)]) then iZ u f d (vs++[(a:Int)]) else none) from rfl]
    cases (List.range' 0 u.size.toNat).findSome? (fun(a:Nat)=>if bA u f (vs++[(a:Int)]) then iZ u f d (vs++[(a:Int)]) else none)<;>rfl
theorem xIw {T N:Nat} {u:Template} {f:Formula} (hu:TV T u) (hf:FX u f) (hN:1100≤N):dM N (wL u f) []=some ((iZ u f f.vars.toNat []).getD [],(iZ u f f.vars.toNat []).isSome):=by
  have h1:=hf.f0;have h2:=hf.v0
  unfold dM
  rw[forL_nil',thn_nx,walk_eq hu hf f.vars.toNat N [] [] (by simp only[List.length_nil];omega) (by omega),bnd_s]
  simp
end Go.Proofs.YtncganhbpbehaaaGreat
namespace Go.Proofs.YtncganhbpbehaaaGreat
set_option linter.unusedVariables false
set_option linter.unusedSimpArgs false
theorem yT {σ ρ:Type} {b:σ→Option (Ctl σ ρ)} {r:Out σ ρ}:∀ {m M:Nat} {s:σ},fA b m s=some r→m≤M→fA b M s=some r
  | 0,_,_,h,_=>by cases h
  | m+1,M,s,h,hM=>by
    obtain⟨K,rfl⟩:∃ K,M=K+1:=⟨M - 1,by omega⟩
    unfold fA at h ⊢
    cases hb:b s with
    | none=>rw[hb] at h;cases h
    | some c=>
      rw[hb] at h
      cases c with
      | go s'=>exact yT h (by omega)
      | brk s'=>exact h
      | ret v=>exact h
theorem xLc {σ ρ:Type} {o:Out σ ρ} {k:σ→Option ρ} {r:ρ} (h:xLx k r o):zR (some o) k=some r:=by
  cases o with
  | nx s=>exact h
  | ret v=>exact congrArg some h
theorem xDt {m M:Nat} {a b c:Int} {d:List Int} (h:bY m a b c=some d) (hM:m≤M):bY M a b c=some d:=by
  unfold bY at h ⊢
  obtain⟨z,h1,h⟩:=xB h;obtain⟨y,h2,h⟩:=xB h;obtain⟨o,ho,hk⟩:=xM h;rw[h1,bnd_s,h2,bnd_s,yT ho hM];exact xLc hk
theorem xFz {m M:Nat} {a b c:Int} (h:dB m a b=some c) (hM:m≤M):dB M a b=some c:=by
  unfold dB at h ⊢
  obtain⟨o,ho,hk⟩:=xM h;rw[yT ho hM];exact xLc hk
theorem xKy {T n k N:Nat} (hT:1≤T∧T≤4) (hn:1≤n∧n≤4) (hN:10≤N) (hk:k<(cY T n).length):bY N (T:Int) (n:Int) (k:Int)=some (cY T n)[k]:=by
  have h:=(xAc T (by simp;omega) n (by simp;omega)).2.2.2
  have h1:((List.range (cY T n).length).map (fun(k:Nat)=>bY 10 (T:Nat) (n:Nat) (k:Int)))[k]?=some (some (cY T n)[k]):=by
    rw[h,List.getElem?_map,List.getElem?_eq_getElem hk]
    rfl
  rw[List.getElem?_map,List.getElem?_range hk] at h1;exact xDt (Option.some.inj h1) hN
theorem xJv {T n N:Nat} (hT:1≤T∧T≤4) (hn:1≤n∧n≤4) (hN:10≤N):lY (T:Int) (n:Int)=some ((cY T n).length:Int)∧dB N (T:Int) (n:Int)=some ((cY T n).length:Int):=by
  have h:=xAc T (by simp;omega) n (by simp;omega);exact⟨h.1,xFz h.2.1 hN⟩
theorem uG {ρ:Type} {N:Nat} {T n:Int} {E:List (List Int)} {is:List Int→Option Bool} (W:List Int→Bool) (hd:∀ (k:Nat) (h:k<E.length),bY N T n (k:Int)=some E[k]) (hi:∀ d∈E,is d=some (W d)):∀ (m k:Nat) (s:List (List Int)),k+m=E.length→s.length+m≤1000 →
    aS (σ:=(List (List Int))) (ρ:=ρ) (fun(k59:Nat) (s53:(List (List Int)))=>
   xZ (bY N T n (k59:Int)) fun z65=>
   xZ (is z65) fun z70=>
   if z70 then
    xZ (ap s53 ([z65])) fun z75=>
    some (.go z75)
   else
    some (.go s53)) m k s=some (.nx (s++(E.drop k).filter W))
  | 0,k,s,hk,_=>by
    rw[List.drop_eq_nil_of_le (by omega)]
    simp [aS]
  | m+1,k,s,hk,hs=>by
    have hlt:k<E.length:=by omega
    have hw:=hi _ (List.getElem_mem hlt);rw[List.drop_eq_getElem_cons hlt,List.filter_cons]
    by_cases h:W E[k]=true
    · rw[fQ (s':=s++[E[k]]) (by
        rw[hd k hlt,bnd_s,hw,bnd_s,h,if_pos rfl,zX (by simp only[List.length_cons,List.length_nil];omega),bnd_s]),uG W hd hi m (k+1) _ (by omega) (by rw[List.length_append,List.length_singleton];omega),if_pos h]
      simp
    · rw[fQ (s':=s) (by
        rw[hd k hlt,bnd_s,hw,bnd_s,if_neg h]),uG W hd hi m (k+1) _ (by omega) (by omega),if_neg h]
theorem xKv {N T n:Nat} (hT:1≤T∧T≤4) (hn:1≤n∧n≤4) (hN:10≤N) {is:List Int→Option Bool} (W:List Int→Bool) (hi:∀ d∈cY T n,is d=some (W d)):jE N (T:Int) (n:Int) is=some ⟨n,(cY T n).filter W⟩:=by
  unfold jE
  have hl:=tK hT hn;rw[(xJv hT hn hN).1,bnd_s,Int.toNat_natCast,uG W (fun k h=>xKy hT hn hN h) hi _ 0 [] (by omega) (by simp only[List.length_nil];omega),thn_nx,List.nil_append,List.drop_zero]
def apart (V R:List (List Int)) (d:List Int):Bool:=decide (d∈V) != decide (d∈R)
end Go.Proofs.YtncganhbpbehaaaGreat
namespace Go.Proofs.YtncganhbpbehaaaGreat
set_option linter.unusedVariables false
set_option linter.unusedSimpArgs false
theorem xOa {s:Int} {x:Rel} (hN:x.tuples.length≤1048576) (h:lG s x=true):okS s=true∧xMh s.toNat x:=by
  obtain⟨b,_,h2,h3⟩:=xKw s x hN
  have hb:b=true:=by unfold lG at h;rw[h2] at h;exact h
  obtain⟨h4,h5,h6,h7⟩:=h3 hb;have hs:=tT h4;have ha:=tT h5;refine⟨h4,x.arity.toNat,by omega,by omega,by omega,xJw h7,fun t ht=>iN.2 ?_⟩;have h8:=h6 t ht
  unfold sH at h8
  rw[Bool.and_eq_true] at h8
  refine ⟨by have : (t.length : Int) = x.arity := by simpa using h8.1
             omega,fun a ha=>?_⟩
  have h9:=List.all_eq_true.1 h8.2 a ha
  unfold okV at h9
  simp at h9
  omega
theorem xDm {u:Template} (hu:tU u) (h:pD u=true):TV u.size.toNat u:=by
  unfold pD at h
  rw[Bool.and_eq_true,Bool.and_eq_true] at h;obtain⟨h1,h2,h3⟩:=h;have hs:=tT h1;exact⟨by omega,by omega,fun r hr=>(xOa (hu r hr) (List.all_eq_true.1 h3 r hr)).2,by have:=of_decide_eq_true h2;omega⟩
theorem xIv {s:Int} (h:1≤s∧s≤1000) (a:Int):dU s a=some (okV s a):=by
  unfold dU
  rw[kE (by omega) (by omega),bnd_s,gJ]
  rfl
theorem xDo {s:Int} (h:1≤s∧s≤1000) (ar:Int) (t:List Int):aY s t ar=some (sH s t ar):=by
  unfold aY sH
  by_cases hl:((t.length:Int)==ar)=true
  · rw[hl,if_pos rfl,tO t (fun x=>!okV s x) _ (fun x=>by unfold eU;rw[xIv h,bnd_s])]
    rw[bnd_s,thn_nx,Bool.true_and,← List.not_all_eq_any_not,Bool.not_not]
  · have hl':((t.length:Int)==ar)=false:=by simpa using hl
    rw[hl',if_neg (by simp),thn_nx,Bool.false_and]
theorem xJs {s:Int} (h:1≤s∧s≤1000) (t:List Int):fW t s=some (t.all (okV s)):=by
  unfold fW
  exact yA (okV s) (fun j x hx=>by
    simp only[kE (x:=s - 1) (by omega) (by omega),bnd_s,iO]
    unfold okV
    cases (decide (0≤x) && decide (x≤s - 1))<;>rfl)
def mR (V:Int) (m:Nat):List Int:=(List.range m).map fun(i:Nat)=>V+i
theorem xDq (V:Int) (m:Nat):(mR V m).length=m:=by simp [mR]
theorem xBx (V:Int) (m:Nat):mR V (m+1)=V::mR (V+1) m:=by
  unfold mR
  rw[List.range_succ_eq_map,List.map_cons,List.map_map];simp only[Int.natCast_zero,Int.add_zero,List.cons.injEq,true_and]
  apply List.map_congr_left
  intro i _;simp only[Function.comp]
  push_cast
  omega
theorem xBm {ρ:Type} (V:Int) (h0:0≤V):∀ (m k:Nat) (s:List Int),V+k+m≤1000000→s.length+m≤1000000 →
    aS (σ:=(List Int)) (ρ:=ρ) (fun(k36:Nat) (s30:(List Int))=>
   xZ (ck (V+(k36:Int))) fun z42=>
   xZ (ap s30 ([z42])) fun z46=>
   some (.go z46)) m k s=some (.nx (s++mR (V+k) m))
  | 0,k,s,_,_=>by simp [aS,mR]
  | m+1,k,s,h1,h2=>by
    have e:V+((k+1:Nat):Int)=V+k+1:=by omega
    rw[fQ (s':=s++[V+k]) (by rw[kE (by omega) (by omega),bnd_s,zX (by simp only[List.length_cons,List.length_nil];omega),bnd_s]),xBm V h0 m (k+1) _ (by omega) (by rw[List.length_append,List.length_singleton];omega),xBx,e]
    simp
theorem xNd {V:Int} {m:Nat} (h0:0≤V) (h1:V+m≤1000000):fN V (m:Int)=some (mR V m):=by
  unfold fN
  have:=xBm (ρ:=List Int) V h0 m 0 [] (by omega) (by simp only[List.length_nil];omega);rw[Int.toNat_natCast,this,thn_nx,List.nil_append]
  simp
theorem xJa {m:Nat} (h1:m≤1000000):aL (m:Int)=some (mR 0 m):=by
  unfold aL
  have key:∀ (m k:Nat) (s:List Int),k+m≤1000000→s.length+m≤1000000→aS (σ:=(List Int)) (ρ:=(List Int)) (fun(k34:Nat) (s28:(List Int))=>
   xZ (ap s28 ([(k34:Int)])) fun z42=>
   some (.go z42)) m k s=some (.nx (s++mR (k:Int) m)):=by
    intro m
    induction m with
    | zero=>intro k s _ _;simp [aS,mR]
    | succ m ih=>
      intro k s h2 h3
      have e:((k+1:Nat):Int)=(k:Int)+1:=by omega
      rw[fQ (s':=s++[(k:Int)]) (by rw[zX (by simp only[List.length_cons,List.length_nil];omega),bnd_s]),ih (k+1) _ (by omega) (by rw[List.length_append,List.length_singleton];omega),xBx,e]
      simp
  rw[Int.toNat_natCast,key m 0 [] (by omega) (by simp only[List.length_nil];omega),thn_nx,List.nil_append]
  rfl
def CV (t:Template) (n:Int) (c:Con):Prop:=(∀ i∈c.scope,0≤i∧i<n)∧∃ r:Rel,0≤c.rel∧t.rels[c.rel.toNat]?=some r∧r∈t.rels∧(c.scope.length:Int)=r.arity
def xFq (t:Template) (vars:Int) (c:Con):Bool:=(decide (0≤c.rel) && decide (c.rel≤(t.rels.length:Int) - 1)) && (((c.scope.length:Int)==(t.rels.getD c.rel.toNat default).arity) && c.scope.all (okV vars))
def pQ (t:Template) (x:Instance):Bool:=pD t && ((decide (1≤x.vars) && decide (x.vars≤10)) && (decide ((x.cons.length:Int)≤24) && x.cons.all (xFq t x.vars)))
theorem xKo {t:Template} {c:Con} (h:(decide (0≤c.rel) && decide (c.rel≤(t.rels.length:Int) - 1))=true):ix t.rels c.rel=some (t.rels.getD c.rel.toNat default):=by
  simp at h
  exact gN h.1 (by rw[List.getD_eq_getElem?_getD,List.getElem?_eq_getElem (by omega)];rfl)
theorem xCk (l:List Con) (p:Con→Bool) (f:Con→Option Bool) (hf:∀ x∈l,f x=some (p x)):kO l f=some (l.any p):=by
  obtain⟨i,h1,h2⟩:=jL l p f hf
  unfold kO bB
  rw[h1,bnd_s,h2]
theorem xDp {t:Template} {x:Instance} (ht:tU t):eI t x=some (pQ t x)∧kT t x=some (pQ t x):=by
  have e0:bK (Template.mk t.size t.rels)=some (pD t):=uL t ht
  unfold eI kT pQ
  rw[yS t ht,e0,bnd_s,bnd_s]
  by_cases h1:pD t=true
  · have hn:=(xDm ht h1).n
    simp only[h1,Bool.not_true,Bool.false_eq_true,if_false,if_true,Bool.true_and,iO,bnd_s]
    unfold mH
    simp only[gJ,bnd_s]
    by_cases h2:(decide (1≤x.vars) && decide (x.vars≤10))=true
    · have hv:1≤x.vars∧x.vars≤10:=by simpa using h2
      simp only[h2,Bool.not_true,Bool.false_eq_true,if_false,if_true,Bool.true_and,thn_nx]
      by_cases h3:(x.cons.length:Int)≤24
      · have h3':¬ (24:Int)<(x.cons.length:Int):=by omega
        simp only[h3,h3',decide_true,decide_false,Bool.false_eq_true,if_false,if_true,Bool.true_and]
        constructor
        · exact yA (xFq t x.vars) (fun j c _=>by
            simp only[kE (x:=(t.rels.length:Int) - 1) (by omega) (by omega),bnd_s]
            unfold xFq
            by_cases h4:(decide (0≤c.rel) && decide (c.rel≤(t.rels.length:Int) - 1))=true
            · rw[h4]
              simp only[Bool.not_true,Bool.false_eq_true,if_false,Bool.true_and,xKo h4,bnd_s]
              by_cases h5:((c.scope.length:Int)==(t.rels.getD c.rel.toNat default).arity)=true
              · have h6:((c.scope.length:Int) != (t.rels.getD c.rel.toNat default).arity)=false:=by simpa using h5
                rw[h6,h5,if_neg (by simp),xJs (by omega),bnd_s,thn_nx]
                cases c.scope.all (okV x.vars)<;>rfl
              · have h5':((c.scope.length:Int)==(t.rels.getD c.rel.toNat default).arity)=false:=by simpa using h5
                have h6:((c.scope.length:Int) != (t.rels.getD c.rel.toNat default).arity)=true:=by simpa using h5
                rw[h6,h5',if_pos rfl,thn_nx]
                rfl
            · have h4':(decide (0≤c.rel) && decide (c.rel≤(t.rels.length:Int) - 1))=false:=by simpa using h4
              rw[h4']
              rfl)
        · rw[xCk x.cons (fun c=>!xFq t x.vars c) _ (fun c _=>by
            unfold dR
            simp only[kE (x:=(t.rels.length:Int) - 1) (by omega) (by omega),bnd_s,gJ]
            unfold xFq
            by_cases h4:(decide (0≤c.rel) && decide (c.rel≤(t.rels.length:Int) - 1))=true
            · rw[h4]
              simp only[Bool.not_true,Bool.false_eq_true,if_false,Bool.true_and,xKo h4,bnd_s,xDo (s:=x.vars) (by omega),thn_nx]
              rfl
            · have h4':(decide (0≤c.rel) && decide (c.rel≤(t.rels.length:Int) - 1))=false:=by simpa using h4
              rw[h4']
              rfl),bnd_s,thn_nx,← List.not_all_eq_any_not,Bool.not_not]
      · have h3':(24:Int)<(x.cons.length:Int):=by omega
        simp [h3,h3']
    · have h2':(decide (1≤x.vars) && decide (x.vars≤10))=false:=by simpa using h2
      rw[h2'];exact⟨rfl,rfl⟩
  · have h1':pD t=false:=by simpa using h1
    rw[h1'];exact⟨rfl,rfl⟩
theorem wV {t:Template} {x:Instance} (h:pQ t x=true):(1≤x.vars∧x.vars≤10)∧x.cons.length≤24∧∀ c∈x.cons,CV t x.vars c:=by
  unfold pQ at h
  simp only[Bool.and_eq_true,decide_eq_true_eq] at h;obtain⟨_,h2,h3,h4⟩:=h;refine⟨h2,by omega,fun c hc=>?_⟩;have h5:=List.all_eq_true.1 h4 c hc
  unfold xFq at h5
  simp only[Bool.and_eq_true,decide_eq_true_eq] at h5;obtain⟨h6',h7,h8⟩:=h5
  have h9:(c.scope.length:Int)=(t.rels.getD c.rel.toNat default).arity:=by simpa using h7
  refine⟨fun i hi=>?_,_,h6'.1,?_,?_,h9⟩
  · have:=List.all_eq_true.1 h8 i hi
    unfold okV at this
    simp at this
    omega
  · rw[List.getD_eq_getElem?_getD,List.getElem?_eq_getElem (by omega)];rfl
  · rw[List.getD_eq_getElem?_getD,List.getElem?_eq_getElem (show c.rel.toNat<t.rels.length by omega)]
    exact List.getElem_mem _
def CW (u:Template) (n:Int) (c:Con):Prop:=CV u n c∧c.scope.length≤4
def sY (u:Template) (vs:List Int) (c:Con):Bool:=decide (atV vs c.scope∈(u.rels.getD c.rel.toNat default).tuples)
theorem xEx {T:Nat} {u:Template} {vs:List Int} {c:Con} (hu:TV T u) (h:CW u vs.length c):gS u c vs=some (sY u vs c):=by
  obtain⟨⟨h1,r,r0,r1,r2,r3⟩,h2⟩:=h;have e1:=xDn (vs:=vs) h1 (by omega)
  have hg:u.rels.getD c.rel.toNat default=r:=by rw[List.getD_eq_getElem?_getD,r1];rfl
  have hix:=gN r0 r1
  unfold gS sY
  rw[hix,bnd_s,e1,bnd_s,hg,xIk,bnd_s]
def fY (K:Int) (y:Instance):Formula:=⟨K,y.vars,y.cons.map fun c=>⟨c.rel,c.scope⟩⟩
theorem xPr {u:Template} {y:Instance} {K:Int} (h:∀ c∈y.cons,CW u y.vars c) (hK:1≤K∧K≤y.vars) (hv:y.vars≤10) (hn:y.cons.length≤24):FX u (fY K y):=by
  refine⟨⟨hK.1,by show K≤10;omega⟩,⟨hK.2,hv⟩,by show(y.cons.map _).length≤24;rw[List.length_map];exact hn,fun a ha=>?_⟩;obtain⟨c,hc,rfl⟩:=List.mem_map.1 ha;obtain⟨⟨h1,h2⟩,_⟩:=h c hc;refine⟨fun i hi=>?_,.inr h2⟩;have:=h1 i hi;have e:(fY K y).vars=y.vars:=rfl;rw[e]
  omega
theorem xCs {u:Template} {n:Int} {c:Con} {vs:List Int} (h:CW u n c):nH u ⟨c.rel,c.scope⟩ vs=sY u vs c:=by
  obtain⟨⟨_,r,h0,_⟩,_⟩:=h
  unfold nH sY
  rw[if_neg (show ¬ (⟨c.rel,c.scope⟩:Atom).rel= -1 by show ¬ c.rel= -1;omega)]
theorem xEe {T:Nat} {lim cnt:Int} {got:List (List Int)} {u:Template} {y:Instance} {vs:List Int} (K:Int) (hu:TV T u) (h:∀ c∈y.cons,CW u y.vars c) (hl:1≤vs.length∧vs.length≤1000):cH (l05Find.mk u y lim got cnt) vs=some (bA u (fY K y) vs):=by
  unfold cH
  rw[kE (by omega) (by omega),bnd_s]
  rw[yA (fun c:Con=>!decide (mx c.scope=(vs.length:Int) - 1) || sY u vs c) (fun j c hc=>by
    have hm:=h c (List.mem_of_getElem? hc);simp only;rw[xEm,thn_nx]
    change zR (if (mx c.scope==(vs.length:Int) - 1) then _ else _) _=_
    by_cases e:mx c.scope=(vs.length:Int) - 1
    · have h1:(mx c.scope==(vs.length:Int) - 1)=true:=by simpa using e
      have hw:CW u vs.length c:=⟨⟨fun i hi=>⟨(hm.1.1 i hi).1,by
        have:=(xHs (l:=c.scope) (s:=0)).2 i hi
        unfold mx at e
        omega⟩,hm.1.2⟩,hm.2⟩
      rw[h1,if_pos rfl,xEx hu hw,bnd_s,thn_nx,decide_eq_true e]
      cases sY u vs c<;>rfl
    · have h1:(mx c.scope==(vs.length:Int) - 1)=false:=by simpa using e
      rw[h1,if_neg (by simp),thn_nx,decide_eq_false e]
      rfl)]
  unfold bA fY
  rw[List.all_map]
  congr 1
  have:∀ l:List Con,(∀ c∈l,CW u y.vars c)→(l.all fun c=>!decide (mx c.scope=(vs.length:Int) - 1) || sY u vs c)=l.all ((fun a=>!decide (mx a.args=(vs.length:Int) - 1) || nH u a vs) ∘ fun c=>⟨c.rel,c.scope⟩):=by
    intro l
    induction l with
    | nil=>intro _;rfl
    | cons c l ih=>
      intro hl;rw[List.all_cons,List.all_cons,ih (fun c' h'=>hl c' (by simp [h']))]
      show _=((!decide (mx c.scope=_) || nH u ⟨c.rel,c.scope⟩ vs) && _)
      rw[xCs (hl c (by simp))]
  exact this y.cons h
theorem xAf {ρ:Type}:∀ (l:List Con) (k:Nat) (s:List Atom),s.length+l.length≤1000→qT (σ:=(List Atom)) (ρ:=ρ) (fun(k68:Nat) (x70:Con) (s62:(List Atom))=>
   xZ (ap s62 ([(Atom.mk x70.rel x70.scope)])) fun z84=>
   some (.go z84)) l k s=some (.nx (s++l.map fun c=>⟨c.rel,c.scope⟩))
  | [],k,s,_=>by simp [qT]
  | c::l,k,s,h=>by
    rw[List.length_cons] at h;rw[kB (s':=s++[⟨c.rel,c.scope⟩]) (by rw[zX (by simp only[List.length_cons,List.length_nil];omega),bnd_s]),xAf l (k+1) _ (by rw[List.length_append,List.length_singleton];omega),List.map_cons,List.append_assoc]
    rfl
theorem tP {T:Nat} {u:Template} {y:Instance} {K:Int} (hu:TV T u) (hf:FX u (fY K y)):eT u y=some (wL u (fY K y)):=by
  unfold eT
  have hn:=hf.n
  have hl:(fY K y).atoms.length=y.cons.length:=by unfold fY;rw[List.length_map]
  rw[xAf y.cons 0 [] (by simp only[List.length_nil];omega),thn_nx,List.nil_append];have h1:fL (Template.mk u.size u.rels) y.vars (y.cons.map fun c=>⟨c.rel,c.scope⟩)=some (wL u (fY K y)):=xEh hu hf;rw[h1,bnd_s]
end Go.Proofs.YtncganhbpbehaaaGreat
