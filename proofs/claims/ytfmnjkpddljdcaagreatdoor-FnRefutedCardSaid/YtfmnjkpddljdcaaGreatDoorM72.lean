import Derived.Test.YtfmnjkpddljdcaaGreatDoorMT
import Derived.Test.YtfmnjkpddljdcaaGreatDoorM1
namespace Go.Proofs.YtfmnjkpddljdcaaGreatDoor
set_option linter.unusedVariables false
set_option linter.unusedSimpArgs false
theorem own_eq (l:List Int) (h:l.length≤1048576):iR l=some l:=by
  unfold iR
  rw[bS (by simp only[List.length_nil];omega),bnd_s];rfl
theorem xCy (l:List Int) (h:l.length≤1048576):zE l=some l:=by
  unfold zE
  rw[bS (by simp only[List.length_nil];omega),bnd_s];rfl
theorem xAl (l:List Int) (a:Int):dS l a=some (l.any (· == a)):=by
  unfold dS
  rw[gZ (fun _ x=>if x==a then some true else none) (fun j x hj=>by by_cases h:(x==a)=true<;>simp [h,wR]),uT]
  cases h:l.any (· == a)<;>rfl
theorem tN (l:List Int) (a:Int):zQ l a=some (l.any (· == a)):=by
  unfold zQ
  obtain⟨i,h1,h2⟩:=rS l (fun x=>a==x) (fun x=>some (a==x)) (fun _ _=>rfl);have h3:cZ l a=some i:=h1;rw[h3,bnd_s,h2]
  congr 2
  funext x
  exact Bool.beq_comm
theorem xAs {ρ:Type} {b:Nat→Int→List Int→Option (Ctl (List Int) ρ)} (p:Int→Bool) (hb:∀ k x s,s.length≤2097152→b k x s=some (.go (if p x then s++[x] else s))):∀ (l:List Int) (k:Nat) (s:List Int),s.length+l.length≤2097152→qW b l k s=some (.nx (s++l.filter p))
  | [],_,s,_=>by simp
  | x::l,k,s,h=>by
    rw[List.length_cons] at h;rw[aJ (hb k x s (by omega))]
    cases hp:p x with
    | true=>rw[if_pos rfl,xAs p hb l _ _ (by simp only[List.length_append,List.length_singleton];omega),List.filter_cons,hp,List.append_assoc];rfl
    | false=>rw[if_neg (by simp),xAs p hb l _ _ (by omega),List.filter_cons,hp];rfl
theorem nC (l:List Int) (a:Int) (h:l.length≤1048576):aE l a=some (l.filter (· != a)):=by
  unfold aE
  rw[xAs (fun x=>x != a) (fun k x s hs=>by
    by_cases hx:(x != a)=true
    · rw[if_pos hx,if_pos hx,bS (by simp only[List.length_cons,List.length_nil];omega),bnd_s]
    · rw[if_neg hx,if_neg hx]) l 0 [] (by simp only[List.length_nil];omega),thn_nx]
  simp
def xFh (p:Int→Bool):List Int→Nat→Option Nat
  | [],_=>none
  | x::l,k=>if p x then some k else xFh p l (k+1)
theorem xFr (p:Int→Bool):∀ (l:List Int) (k:Nat),(xFh p l k=none∧l.filter (fun x=>!p x)=l)∨∃ i,i<l.length∧xFh p l k=some (k+i)∧(l.take i).filter (fun x=>!p x)=l.take i∧∃ x,l[i]?=some x∧p x=true
  | [],_=>.inl ⟨rfl,rfl⟩
  | x::l,k=>by
    by_cases h:p x=true
    · exact .inr ⟨0,by simp,by simp [xFh,h],rfl,x,rfl,h⟩
    · have h':p x=false:=by simpa using h
      rcases xFr p l (k+1) with ⟨h1,h2⟩ | ⟨i,h1,h2,h3,y,h4,h5⟩
      · exact .inl ⟨by simp [xFh,h',h1],by rw[List.filter_cons];simp [h',h2]⟩
      · refine .inr ⟨i+1,by simp;omega,by simp [xFh,h',h2];omega,?_,y,by simpa using h4,h5⟩
        rw[List.take_succ_cons,List.filter_cons];simp [h',h3]
theorem xJe (p:Int→Bool):∀ (l:List Int) (k:Nat),fnd (fun k x=>if p x then some (k:Int) else none) l k=(xFh p l k).map (fun i=>(i:Int))
  | [],_=>rfl
  | x::l,k=>by
    unfold fnd xFh
    by_cases h:p x=true
    · simp [h]
    · have h':p x=false:=by simpa using h
      simp only[h',Bool.false_eq_true,if_false];exact xJe p l (k+1)
theorem xOj (l:List Int) (p:Int→Bool) (f:Int→Option Bool) (hf:∀ x,f x=some (p x)):zK l f=some (match xFh p l 0 with | some i=>(i:Int) | none=>-1):=by
  have h0:zK l f=kY (qW (σ:=Unit) (ρ:=Int) (fun(k:Nat) (x:Int) (s:Unit)=>match s with | _=>xY (f x) fun z=>if z then some (.ret (k:Int)) else some (.go ())) l 0 ()) (fun _=>some (-1)):=rfl;rw[h0,gZ (fun k x=>if p x then some (k:Int) else none) (fun j x hj=>by simp only[hf,bnd_s];by_cases hv:p x=true<;>simp [hv,wR]),xJe]
  cases xFh p l 0<;>rfl
theorem xEu {l:List Int} {i:Nat} (h:i<l.length) (x:Int):(l.set i x).take (i+1)=l.take i++[x]:=by
  rw[List.take_add_one,List.take_set,List.getElem?_set_self h]
  congr 1
  rw[List.set_eq_of_length_le (by simp;omega)]
theorem xPe {l:List Int} {i j:Nat} (h:i<j) (x:Int):(l.set i x).drop j=l.drop j:=by
  apply List.ext_getElem?
  intro k;rw[List.getElem?_drop,List.getElem?_drop,List.getElem?_set_ne (by omega)]
theorem xQx (p:Int→Bool) (f:Int→Option Bool) (hf:∀ x,f x=some (p x)) (l:List Int) (hl:l.length≤1048576):∀ (N i j:Nat) (m:List Int),l.length - j<N→i<j→j≤l.length→m.length=l.length→m.take i=(l.take j).filter (fun x=>!p x)→m.drop j=l.drop j →
    ∃ (i':Nat) (m':List Int),lD (σ:=Int×Int×(List Int)) (ρ:=(List Int)) (fun(s:Int×Int×(List Int))=>
        match s with
        | (s94,s96,s98)=>
          if (decide (s96<(s98.length:Int))) then
            xY (ix s98 s96) fun z116=>
            xY (f z116) fun z124=>
            if (!z124) then
              xY (ix s98 s94) fun z127=>
              xY (ck (s94+1)) fun z138=>
              xY (ck (s96+1)) fun z140=>
              some (.go (z138,z140,(s98.set (s94).toNat z116)))
            else
              xY (ck (s96+1)) fun z142=>
              some (.go (s94,z142,s98))
          else
            some (.brk (s94,s96,s98))) N ((i:Int),(j:Int),m)=some (.nx ((i':Int),((l.length:Nat):Int),m'))∧i'≤m'.length∧m'.length=l.length∧m'.take i'=l.filter (fun x=>!p x):=by
  intro N
  induction N with
  | zero=>intro i j m h;omega
  | succ N ih=>
    intro i j m hN hij hj hm ht hd
    by_cases hlt:j<l.length
    · have hmj:m[j]?=l[j]?:=by
        have:=congrArg (fun q=>q[0]?) hd
        simpa [List.getElem?_drop] using this
      have hlj:l[j]?=some l[j]:=List.getElem?_eq_getElem hlt;have hx:ix m (j:Int)=some l[j]:=zI (hmj.trans hlj);have hi:ix m (i:Int)=some m[i]:=zI (List.getElem?_eq_getElem (by omega));have hc1:ck ((j:Int)+1)=some (((j+1:Nat)):Int):=kI (by omega) (by omega);have hc2:ck ((i:Int)+1)=some (((i+1:Nat)):Int):=kI (by omega) (by omega)
      have htk:(l.take (j+1)).filter (fun x=>!p x)=(l.take j).filter (fun x=>!p x)++(if p l[j] then [] else [l[j]]):=by
        rw[List.take_add_one,hlj,List.filter_append]
        cases hp:p l[j]<;>simp [hp]
      have hd1:m.drop (j+1)=l.drop (j+1):=by
        have:=congrArg (List.drop 1) hd
        simpa [List.drop_drop] using this
      cases hp:p l[j] with
      | true=>
        obtain⟨i',m',h1,h2⟩:=ih i (j+1) m (by omega) (by omega) (by omega) hm (by rw[htk,hp,ht];simp) hd1;refine⟨i',m',?_,h2⟩;rw[mY (s':=((i:Int),((j+1:Nat):Int),m)) (by simp only[hm];rw[if_pos (by simp;omega),hx,bnd_s,hf,bnd_s,hp,hc1,bnd_s];rfl),h1]
      | false=>
        obtain⟨i',m',h1,h2⟩:=ih (i+1) (j+1) (m.set i l[j]) (by omega) (by omega) (by omega) (by simpa using hm) (by rw[htk,hp,xEu (by omega),ht];simp) (by rw[xPe (by omega),hd1]);refine⟨i',m',?_,h2⟩;rw[mY (s':=(((i+1:Nat):Int),((j+1:Nat):Int),m.set i l[j])) (by simp only[hm];rw[if_pos (by simp;omega),hx,bnd_s,hf,bnd_s,hp,hi];simp only[Bool.not_false,if_true,bnd_s,hc1,hc2,Int.toNat_natCast]),h1]
    · obtain rfl:j=l.length:=by omega
      refine⟨i,m,?_,by omega,hm,by rw[ht,List.take_length]⟩;exact iP (by simp only[hm];rw[if_neg (by simp)])
theorem xFd {N:Nat} (l:List Int) (p:Int→Bool) (f:Int→Option Bool) (hf:∀ x,f x=some (p x)) (hl:l.length≤1048576) (hN:l.length<N):aI N l f=some (l.filter (fun x=>!p x)):=by
  unfold aI
  rw[xOj l p f hf,bnd_s]
  rcases xFr p l 0 with ⟨h1,h2⟩ | ⟨i,h1,h2,h3,x,h4,h5⟩
  · rw[h1,h2];rfl
  · rw[h2,Nat.zero_add]
    simp only;rw[if_neg (by simp<;>omega),show ck ((i:Int)+1)=some (((i+1:Nat)):Int) from kI (by omega) (by omega),bnd_s]
    obtain⟨i',m',g1,g2,g3,g4⟩:=xQx p f hf l hl N i (i+1) l (by omega) (by omega) (by omega) rfl (by
      rw[List.take_add_one,h4,List.filter_append,h3]
      simp [h5]) rfl
    rw[g1,thn_nx];simp only
    have hs1:sl m' (i':Int) (m'.length:Int)=some ((m'.take m'.length).drop i'):=by
      unfold sl;rw[if_pos ⟨by omega,by omega,by omega⟩];simp
    have hs2:sl (m'.take i'++List.replicate (m'.length - i') (0:Int)) 0 (i':Int)=some (m'.take i'):=by
      unfold sl
      rw[if_pos ⟨by omega,by omega,by simp;omega⟩];simp only[Int.toNat_natCast,show(0:Int).toNat=0 from rfl,List.drop_zero];rw[List.take_append_of_le_length (by simp;omega),List.take_take,Nat.min_self]
    rw[hs1,bnd_s];simp only[Int.toNat_natCast];rw[hs2,bnd_s,g4]
theorem sK {N:Nat} (l:List Int) (a:Int) (hl:l.length≤1048576) (hN:l.length<N):bT N l a=some (l.filter (· != a)):=by
  unfold bT
  rw[xCy l hl,bnd_s,xFd l (fun x=>x==a) (fun a0=>mL a0 a) (fun x=>rfl) hl hN,bnd_s]
  rfl
theorem xDs {ρ:Type} {b:Nat→Unit→Option (Ctl Unit ρ)} (p:Nat→Bool) (r:ρ):∀ (m k:Nat),(∀ j,k≤j→j<k+m→b j ()=some (if p j then .ret r else .go ()))→eJ b m k ()=some (if (List.range' k m).any p then .ret r else .nx ())
  | 0,k,_=>rfl
  | m+1,k,h=>by
    have h0:=h k (Nat.le_refl _) (by omega)
    cases hp:p k with
    | true=>rw[hp] at h0;rw[xKz h0,List.range'_succ,List.any_cons,hp];rfl
    | false=>
      rw[hp] at h0;rw[sY (s':=()) h0,xDs p r m (k+1) (fun j h1 h2=>h j (by omega) (by omega)),List.range'_succ,List.any_cons,hp]
      rfl
def agP (sc t:List Int) (k j:Nat):Bool:=(sc.getD k 0==sc.getD j 0) && (t.getD k 0 != t.getD j 0)
def agB (sc t:List Int):Bool:=!((List.range' 0 sc.length).any fun k=>(List.range' 0 k).any (agP sc t k))
theorem xAy {α:Type} (g:Nat→Bool):∀ (l:List α) (k:Nat),fnd (fun k _=>if g k then some false else none) l k=if (List.range' k l.length).any g then some false else none
  | [],_=>rfl
  | x::l,k=>by
    unfold fnd
    rw[List.length_cons,List.range'_succ,List.any_cons]
    by_cases h:g k=true
    · simp [h]
    · have h':g k=false:=by simpa using h
      simp only[h',Bool.false_eq_true,if_false,Bool.false_or];exact xAy g l (k+1)
theorem xHe {l:List Int} {k:Nat} {x:Int} (h:l[k]?=some x):l.getD k 0=x:=by rw[List.getD_eq_getElem?_getD,h];rfl
theorem nB {l:List Int} {k:Nat} (h:k<l.length):ix l (k:Int)=some (l.getD k 0):=zI (by rw[List.getElem?_eq_getElem h,xHe (List.getElem?_eq_getElem h)])
theorem xNh (c:Con) (t:List Int) (h:t.length=c.scope.length):gV c t=some (agB c.scope t):=by
  unfold gV
  rw[gZ (fun k _=>if (List.range' 0 k).any (agP c.scope t k) then some false else none) (fun j x hj=>by
    have hjl:j<c.scope.length:=(List.getElem?_eq_some_iff.1 hj).1;rw[Nat.zero_add];simp only[Int.toNat_natCast]
    rw[xDs (agP c.scope t j) (.ret false) j 0 (fun q h1 h2=>by
      have hq:q<c.scope.length:=by omega
      rw[nB hq,bnd_s,nB (by omega:q<t.length),nB (by omega:j<t.length)]
      unfold agP
      rw[xHe hj];generalize c.scope.getD q 0=u;generalize t.getD q 0=v;generalize t.getD j 0=z;simp only[bnd_s]
      by_cases h3:u=x
      · by_cases h4:v=z
        · simp [h3,h4]
        · simp [h3,h4,Ne.symm h4]
      · simp [h3,Ne.symm h3])]
    cases (List.range' 0 j).any (agP c.scope t j)<;>rfl),xAy]
  unfold agB
  cases (List.range' 0 c.scope.length).any fun k=>(List.range' 0 k).any (agP c.scope t k)<;>rfl
theorem xRj (c:Con) (t:List Int) (h:t.length=c.scope.length):iG c t=some (agB c.scope t):=by
  unfold iG
  rw[gZ (fun k _=>if (List.range' 0 k).any (agP c.scope t k) then some false else none) (fun j x hj=>by
    have hjl:j<t.length:=(List.getElem?_eq_some_iff.1 hj).1;rw[Nat.zero_add];simp only[Int.toNat_natCast]
    rw[xDs (agP c.scope t j) (.ret false) j 0 (fun q h1 h2=>by
      have hq:q<c.scope.length:=by omega
      rw[nB (by omega:j<c.scope.length),bnd_s,nB hq,bnd_s,nB (by omega:q<t.length)]
      unfold agP
      rw[xHe hj];generalize c.scope.getD q 0=u;generalize c.scope.getD j 0=z;generalize t.getD q 0=v;simp only[bnd_s]
      by_cases h3:z=u
      · by_cases h4:x=v
        · simp [h3,h4]
        · simp [h3,h4]
      · simp [h3])]
    cases (List.range' 0 j).any (agP c.scope t j)<;>rfl),xAy,h]
  unfold agB
  cases (List.range' 0 c.scope.length).any fun k=>(List.range' 0 k).any (agP c.scope t k)<;>rfl
def sB (dom:List (List Int)):List Int→List Int→Bool
  | v::sc,a::t=>(dom.getD v.toNat []).any (· == a) && sB dom sc t
  | _,_=>true
def yM (c:Con) (dom:List (List Int)) (p:Nat) (a:Int) (t:List Int):Bool:=(t.getD p 0==a) && (agB c.scope t && sB dom c.scope t)
theorem tB (l:List (List Int)) (p:List Int→Bool) (f:List Int→Option Bool) (hf:∀ x∈l,f x=some (p x)):zJ l f=some (l.any p):=by
  obtain⟨i,h1,h2⟩:=rS l p f hf;have h3:kE l f=some i:=h1
  unfold zJ
  rw[h3,bnd_s,h2]
theorem ixD {dom:List (List Int)} {v:Int} (h0:0≤v) (h1:v<dom.length):ix dom v=some (dom.getD v.toNat []):=by
  refine dX h0 ?_;rw[List.getD_eq_getElem?_getD,List.getElem?_eq_getElem (by omega)]
  rfl
theorem xDm (dom:List (List Int)) (t:List Int) (bd:Nat→Int→Unit→Option (Ctl Unit Bool)) (hb:∀ k v,bd k v ()=(xY (ix dom v) fun z107=>xY (ix t (k:Int)) fun z117=>xY (zQ z107 z117) fun z124=>if (!z124) then some (.ret false) else some (.go ()))):∀ (sc u:List Int) (k:Nat),t.drop k=u→u.length=sc.length→(∀ v∈sc,0≤v∧v<dom.length) →
    qW bd sc k ()=some (if sB dom sc u then .nx () else .ret false)
  | [],_,_,_,_,_=>rfl
  | v::sc,[],k,_,h,_=>by simp at h
  | v::sc,a::u,k,hd,hl,hs=>by
    have hv:=hs v (by simp);have hta:t[k]?=some a:=(qY hd).2.1;have hb0:=hb k v;rw[ixD hv.1 hv.2,bnd_s,zI hta,bnd_s,tN,bnd_s] at hb0
    unfold sB
    cases hh:(dom.getD v.toNat []).any (· == a) with
    | false=>rw[hh] at hb0;rw[jL hb0];rfl
    | true=>
      rw[hh] at hb0;rw[aJ (s':=()) hb0,xDm dom t bd hb sc u (k+1) (qY hd).2.2 (by simpa using hl) (fun w hw=>hs w (by simp [hw]))]
      rfl
theorem xNq (c:Con) (dom:List (List Int)) (p:Nat) (a:Int) (t:List Int) (h:t.length=c.scope.length) (hp:p<c.scope.length) (hs:∀ v∈c.scope,0≤v∧v<dom.length):fM t (p:Int) a (Con.mk c.rel c.scope) dom=some (yM c dom p a t):=by
  unfold fM yM
  rw[nB (by omega),bnd_s,show(Con.mk c.rel c.scope)=c from rfl,xNh c t h,bnd_s,xDm dom t _ (fun k v=>rfl) c.scope t 0 rfl h hs];generalize t.getD p 0=y;generalize sB dom c.scope t=z;generalize agB c.scope t=u
  by_cases h1:y=a
  · cases u<;>cases z<;>simp [h1]
  · simp [h1]
theorem xGg {ρ:Type} (dom:List (List Int)) (c:Con) (t:List Int) (ht:t.length≤1048576):∀ (N:Nat) (sc u:List Int) (k:Nat),u.length<N→t.drop k=u→c.scope.drop k=sc→u.length=sc.length→k≤t.length→(∀ v∈sc,0≤v∧v<dom.length) →
    ∃ q, lD (σ := Bool × Int) (ρ := ρ) (fun (s : Bool × Int) =>
            match s with
            | (s315,s316)=>
              kY (σ:=Bool) (
                if (decide (s316<(t.length:Int))) then   some (.nx s315) else   some (.nx false)) fun s332=>
              if s332 then
                xY (ix c.scope s316) fun z344=>
                xY (ix dom z344) fun z351=>
                xY (ix t s316) fun z361=>
                xY (dS z351 z361) fun z368=>
                xY (ck (s316+1)) fun z370=>
                some (.go (z368,z370))
              else
                some (.brk (s315,s316))) N (true,(k:Int))=some (.nx (sB dom sc u,q))
  | 0,_,_,_,h,_,_,_,_,_=>by omega
  | N+1,[],u,k,hN,hu,hsc,hl,hk,_=>by
    have hu0:u=[]:=List.length_eq_zero_iff.1 hl
    have:t.length≤k:=by rw[hu0] at hu;exact List.drop_eq_nil_iff.1 hu
    refine⟨(k:Int),iP ?_⟩
    have hd:decide ((k:Int)<(t.length:Int))=false:=by simp;omega
    rw[hu0];simp only[hd,Bool.false_eq_true,if_false,thn_nx]
    rfl
  | N+1,v::sc,[],_,_,_,_,h,_,_=>by simp at h
  | N+1,v::sc,a::u,k,hN,hu,hsc,hl,hk,hs=>by
    have hv:=hs v (by simp);have hta:=qY hu;have hsv:=qY hsc
    have hd:decide ((k:Int)<(t.length:Int))=true:=by simp;exact hta.1
    have hc1:ck ((k:Int)+1)=some (((k+1:Nat)):Int):=kI (by omega) (by omega)
    have hb : ∀ b : Bool, b = (dom.getD v.toNat []).any (· == a) → ∃ q, lD (σ := Bool × Int) (ρ := ρ) (fun (s : Bool × Int) =>
            match s with
            | (s315,s316)=>
              kY (σ:=Bool) (
                if (decide (s316<(t.length:Int))) then   some (.nx s315) else   some (.nx false)) fun s332=>
              if s332 then
                xY (ix c.scope s316) fun z344=>
                xY (ix dom z344) fun z351=>
                xY (ix t s316) fun z361=>
                xY (dS z351 z361) fun z368=>
                xY (ck (s316+1)) fun z370=>
                some (.go (z368,z370))
              else
                some (.brk (s315,s316))) N (b,((k+1:Nat):Int))=some (.nx (sB dom (v::sc) (a::u),q)):=by
      intro b hbb
      unfold sB
      rw[← hbb]
      cases b with
      | true=>
        obtain⟨q,hq⟩:=xGg (ρ:=ρ) dom c t ht N sc u (k+1) (by simp at hN;omega) hta.2.2 hsv.2.2 (by simpa using hl) (by omega) (fun w hw=>hs w (by simp [hw]));exact⟨q,by rw[hq];rfl⟩
      | false=>
        cases N with
        | zero=>simp at hN
        | succ N=>
          refine⟨((k+1:Nat):Int),iP ?_⟩
          by_cases h9:decide ((((k+1:Nat):Int))<(t.length:Int))=true
          · simp only[h9,if_true,thn_nx];rfl
          · have h9':decide ((((k+1:Nat):Int))<(t.length:Int))=false:=by simpa using h9
            simp only[h9',thn_nx];rfl
    obtain⟨q,hq⟩:=hb _ rfl;refine⟨q,?_⟩
    rw[mY (s':=((dom.getD v.toNat []).any (· == a),((k+1:Nat):Int))) (by
      simp only[hd,if_true,thn_nx,zI hsv.2.1,zI hta.2.1,ixD hv.1 hv.2,xAl,hc1,bnd_s]),hq]
theorem xNk {N:Nat} {ρ:Type} (c:Con) (dom:List (List Int)) (p:Nat) (a:Int) (t:List Int) (h:t.length=c.scope.length) (hp:p<c.scope.length) (hs:∀ v∈c.scope,0≤v∧v<dom.length) (hN:t.length<N) (hl:t.length≤1048576) (b:Bool) (hb:b=((t.getD p 0==a) && agB c.scope t)) :
    ∃ q, lD (σ := Bool × Int) (ρ := ρ) (fun (s : Bool × Int) =>
            match s with
            | (s315,s316)=>
              kY (σ:=Bool) (
                if (decide (s316<(t.length:Int))) then   some (.nx s315) else   some (.nx false)) fun s332=>
              if s332 then
                xY (ix c.scope s316) fun z344=>
                xY (ix dom z344) fun z351=>
                xY (ix t s316) fun z361=>
                xY (dS z351 z361) fun z368=>
                xY (ck (s316+1)) fun z370=>
                some (.go (z368,z370))
              else
                some (.brk (s315,s316))) N (b,0)=some (.nx (yM c dom p a t,q)):=by
  unfold yM
  rw[← Bool.and_assoc,← hb]
  cases b with
  | true=>
    obtain⟨q,hq⟩:=xGg (ρ:=ρ) dom c t hl N c.scope t 0 hN rfl rfl h (Nat.zero_le _) hs;exact⟨q,by rw[Bool.true_and];exact hq⟩
  | false=>
    cases N with
    | zero=>omega
    | succ N=>
      refine⟨0,iP ?_⟩
      by_cases h9:decide ((0:Int)<(t.length:Int))=true
      · simp only[h9,if_true,thn_nx];rfl
      · have h9':decide ((0:Int)<(t.length:Int))=false:=by simpa using h9
        simp only[h9',thn_nx];rfl
structure ConOk (x:Template) (c:Con) (n:Nat):Prop where
  rel:∃ r,ix x.rels c.rel=some r∧∀ t∈r.tuples,t.length=c.scope.length
  sc:∀ v∈c.scope,0≤v∧v<(n:Int)
  four:c.scope.length≤4
def rM (x:Template) (c:Con) (dom:List (List Int)) (p:Nat) (a:Int):Bool:=((ix x.rels c.rel).getD default).tuples.any (yM c dom p a)
theorem wO {N:Nat} {x:Template} {c:Con} {dom:List (List Int)} {p:Nat} (a:Int) (hN:10≤N) (hc:ConOk x c dom.length) (hp:p<c.scope.length):bO x c dom (p:Int) a=some (rM x c dom p a)∧cI N x c dom (p:Int) a=some (rM x c dom p a):=by
  obtain⟨r,hr,hT⟩:=hc.rel;have h4:=hc.four
  have hb:rM x c dom p a=r.tuples.any (yM c dom p a):=by unfold rM;rw[hr];rfl
  rw[hb];refine⟨?_,?_⟩
  · unfold bO
    rw[hr,bnd_s,tB _ (yM c dom p a) _ (fun t ht=>xNq c dom p a t (hT t ht) hp hc.sc),bnd_s]
  · unfold cI
    rw[hr,bnd_s,gZ (fun _ t=>if yM c dom p a t then some true else none) (fun j t hj=>by
      have hl:=hT t (List.mem_of_getElem? hj)
      have hw:kY (σ:=Bool) (ρ:=Ctl Unit Bool) (xY (ix t (p:Int)) fun z251=>if (z251==a) then xY (iG c t) fun z259=>some (.nx z259) else some (.nx false))=fun k=>k ((t.getD p 0==a) && agB c.scope t):=by
        funext k
        rw[nB (by omega),bnd_s,xRj c t hl,bnd_s];generalize t.getD p 0=y
        by_cases h1:y=a
        · simp [h1]
        · have h2:(y==a)=false:=by simpa using h1
          simp [h2]
      simp only[hw];obtain⟨q,hq⟩:=xNk (N:=N) (ρ:=Ctl Unit Bool) c dom p a t hl hp hc.sc (by omega) (by omega) _ rfl;rw[hq,thn_nx]
      cases yM c dom p a t<;>rfl),uT]
    cases r.tuples.any (yM c dom p a)<;>rfl
end Go.Proofs.YtfmnjkpddljdcaaGreatDoor
namespace Go.Proofs.YtfmnjkpddljdcaaGreatDoor
set_option linter.unusedVariables false
set_option linter.unusedSimpArgs false
theorem xEh {α σ σ' ρ ρ':Type} {f:Nat→α→σ→Option (Ctl σ ρ)} {g:Nat→α→σ'→Option (Ctl σ' ρ')} (R:Nat→σ→σ'→Prop) (Q:ρ→ρ'→Prop):∀ (l:List α) (k:Nat) (s:σ) (s':σ'),R k s s' →
    (∀ j x s s',l[j]?=some x→R (k+j) s s'→(∃ t t',f (k+j) x s=some (.go t)∧g (k+j) x s'=some (.go t')∧R (k+j+1) t t')∨(∃ r r',f (k+j) x s=some (.ret r)∧g (k+j) x s'=some (.ret r')∧Q r r')) →
    (∃ t t',qW f l k s=some (.nx t)∧qW g l k s'=some (.nx t')∧R (k+l.length) t t')∨(∃ r r',qW f l k s=some (.ret r)∧qW g l k s'=some (.ret r')∧Q r r')
  | [],_,s,s',h,_=>.inl ⟨s,s',rfl,rfl,h⟩
  | x::l,k,s,s',h,hh=>by
    rcases hh 0 x s s' rfl h with ⟨t,t',h1,h2,h3⟩ | ⟨r,r',h1,h2,h3⟩
    · rw[Nat.add_zero] at h1 h2 h3
      rw[aJ h1,aJ h2]
      have:=xEh R Q l (k+1) t t' h3 (fun j y s s' hj hr=>by
        rw[Nat.add_assoc,Nat.add_comm 1 j] at hr ⊢
        exact hh (j+1) y s s' hj hr)
      rw[List.length_cons,Nat.add_comm l.length 1,← Nat.add_assoc];exact this
    · rw[Nat.add_zero] at h1 h2
      exact .inr ⟨r,r',jL h1,jL h2,h3⟩
theorem xMj {σ σ' ρ ρ':Type} {f:σ→Option (Ctl σ ρ)} {g:σ'→Option (Ctl σ' ρ')} (R:σ→σ'→Prop) (E:σ→σ'→Prop) (Q:ρ→ρ'→Prop) (μ:σ→Nat)
    (hh:∀ s s',R s s'→(∃ t t',f s=some (.go t)∧g s'=some (.go t')∧R t t'∧μ t<μ s)∨(∃ t t',f s=some (.brk t)∧g s'=some (.brk t')∧E t t')∨(∃ r r',f s=some (.ret r)∧g s'=some (.ret r')∧Q r r')) :
    ∀ (N:Nat) (s:σ) (s':σ'),μ s<N→R s s'→(∃ t t',lD f N s=some (.nx t)∧lD g N s'=some (.nx t')∧E t t')∨(∃ r r',lD f N s=some (.ret r)∧lD g N s'=some (.ret r')∧Q r r')
  | 0,_,_,h,_=>by omega
  | N+1,s,s',hN,h=>by
    rcases hh s s' h with ⟨t,t',h1,h2,h3,h4⟩ | ⟨t,t',h1,h2,h3⟩ | ⟨r,r',h1,h2,h3⟩
    · rw[mY h1,mY h2]
      exact xMj R E Q μ hh N t t' (by omega) h3
    · exact .inl ⟨t,t',iP h1,iP h2,h3⟩
    · exact .inr ⟨r,r',wN h1,wN h2,h3⟩
def tot (dom:List (List Int)):Nat:=(dom.map List.length).sum
theorem xGn:∀ (dom:List (List Int)) (i:Nat) (d w:List Int),dom[i]?=some d→tot (dom.set i w)+d.length=tot dom+w.length
  | [],i,d,w,h=>by simp at h
  | x::r,0,d,w,h=>by
    simp at h;subst h
    simp [tot];omega
  | x::r,i+1,d,w,h=>by
    have:=xGn r i d w (by simpa using h)
    simp [tot] at this ⊢
    omega
theorem fA {dom:List (List Int)} {d:List Int} (h:d∈dom):d.length≤tot dom:=by
  induction dom with
  | nil=>cases h
  | cons x r ih=>
    simp only[tot,List.map_cons,List.sum_cons]
    rcases List.mem_cons.1 h with rfl | h
    · omega
    · have:=ih h;unfold tot at this;omega
structure DomOk (n T:Nat) (dom:List (List Int)):Prop where
  len:dom.length=n
  nd:∀ d∈dom,d.Nodup
  le:tot dom≤T
theorem xBd {l:List Int} {a:Int} (h:a∈l):(l.filter (· != a)).length<l.length:=by
  induction l with
  | nil=>cases h
  | cons x r ih=>
    rw[List.filter_cons]
    by_cases hx:x=a
    · subst hx
      have:=List.length_filter_le (· != x) r
      simp;omega
    · have hne:(x != a)=true:=by simp [hx]
      rw[if_pos hne]
      rcases List.mem_cons.1 h with h | h
      · exact absurd h.symm hx
      · have:=ih h;simp;omega
theorem mem_set {dom:List (List Int)} {i:Nat} {w d:List Int} (h:d∈dom.set i w):d∈dom∨d=w:=List.mem_or_eq_of_mem_set h
theorem DomOk.set {n T:Nat} {dom:List (List Int)} (h:DomOk n T dom) {i:Nat} {d w:List Int} (hd:dom[i]?=some d) (hw:w.Nodup) (hl:w.length≤d.length):DomOk n T (dom.set i w):=by
  refine⟨by simp [h.len],fun e he=>(mem_set he).elim (h.nd e) (fun e'=>e' ▸ hw),?_⟩;have:=xGn dom i d w hd;have:=h.le
  omega
theorem xBm (dom:List (List Int)):aR dom=some (dom.any (fun d=>(d.length:Int)==0)):=by
  unfold aR
  rw[tB _ (fun d=>(d.length:Int)==0) (fun a0=>lZ a0) (fun d _=>rfl),bnd_s]
def pL (dom:List (List Int)):Prop:=∀ d∈dom,d≠[]
theorem xSp {dom:List (List Int)} (h:pL dom) {i:Nat} (hi:i<dom.length) (w:List Int):(dom.set i w).any (fun d=>(d.length:Int)==0)=((w.length:Int)==0):=by
  cases hw:((w.length:Int)==0) with
  | true=>rw[List.any_eq_true];exact⟨w,List.mem_set hi w,hw⟩
  | false=>
    rw[List.any_eq_false];intro d hd
    rcases mem_set hd with hd | rfl
    · have:=h d hd
      simp only[beq_iff_eq];intro h0;exact this (List.length_eq_zero_iff.1 (by omega))
    · simp [hw]
structure PInv (K:List ArcStep→List (List Int)→Prop) (n B T:Nat) (D:List (List Int)→Prop) (dom:List (List Int)) (out:List ArcStep) (ch:Bool):Prop where
  ok:DomOk n T dom
  full:pL dom
  sum:out.length+tot dom≤T
  ge:B≤out.length
  yes:ch=true→B<out.length
  no:ch=false→out.length=B
  k:K out dom
  con:ch=false→D dom
theorem PInv.mono {K:List ArcStep→List (List Int)→Prop} {D D':List (List Int)→Prop} {n B T:Nat} {dom:List (List Int)} {out:List ArcStep} {ch:Bool} (h:PInv K n B T D dom out ch) (hd:D dom→D' dom):PInv K n B T D' dom out ch:=⟨h.ok,h.full,h.sum,h.ge,h.yes,h.no,h.k,fun e=>hd (h.con e)⟩
def xPq (K:List ArcStep→List (List Int)→Prop) (x:Template) (c:Con) (kc p:Nat) (v:Int):Prop:=∀ out dom a,K out dom→pL dom→a∈dom.getD v.toNat []→rM x c dom p a=false→K (out++[ArcStep.mk v a (kc:Int)]) (dom.set v.toNat ((dom.getD v.toNat []).filter (· != a)))
theorem xQb {N:Nat} {K:List ArcStep→List (List Int)→Prop} {D:List (List Int)→Prop} {x:Template} {c:Con} {n B T kc p:Nat} {v a:Int} {dom:List (List Int)} {out:List ArcStep} {ch:Bool} (hN:10≤N) (hNT:T<N) (hT:T≤1048576) (hc:ConOk x c n) (hp:p<c.scope.length) (hv:0≤v∧v<(n:Int)) (hK:xPq K x c kc p v) (I:PInv K n B T D dom out ch) (ha:a∈dom.getD v.toNat []) :
    ∃ b,rM x c dom p a=b∧bO (Template.mk x.size x.rels) (Con.mk c.rel c.scope) dom (p:Int) a=some b∧cI N x c dom (p:Int) a=some b∧(b=false→∃ d w out',ix dom v=some d∧dom[v.toNat]?=some d∧w=d.filter (· != a)∧bT N d a=some w∧aE d a=some w∧out'=out++[ArcStep.mk v a (kc:Int)]∧ap out [ArcStep.mk v a (kc:Int)]=some out' ∧
      aR (dom.set v.toNat w)=some ((w.length:Int)==0)∧ix (dom.set v.toNat w) v=some w∧DomOk n T (dom.set v.toNat w)∧out'.length+tot (dom.set v.toNat w)≤T∧B<out'.length∧K out' (dom.set v.toNat w)∧(((w.length:Int)==0)=false→∀ D',PInv K n B T D' (dom.set v.toNat w) out' true)):=by
  have hl:=I.ok.len;obtain⟨h1,h2⟩:=wO (N:=N) (dom:=dom) a hN (hl.symm ▸ hc) hp;refine⟨_,rfl,h1,h2,fun hb=>?_⟩;have hk:=hK out dom a I.k I.full ha hb
  have hvn:v.toNat<dom.length:=by omega
  have hdv:dom[v.toNat]?=some (dom.getD v.toNat []):=by rw[List.getD_eq_getElem?_getD,List.getElem?_eq_getElem hvn];rfl
  obtain⟨d,hd⟩:∃ d,d=dom.getD v.toNat []:=⟨_,rfl⟩;rw[← hd] at ha hdv hk;have hdm:d∈dom:=List.mem_of_getElem? hdv;have hdl:=fA hdm;have hle:=I.ok.le;have hsum:=I.sum;have hless:=xBd ha;have hset:=xGn dom v.toNat d (d.filter (· != a)) hdv;have hok:DomOk n T (dom.set v.toNat (d.filter (· != a))):=I.ok.set hdv ((I.ok.nd d hdm).filter _) (by omega)
  have hsum':(out++[ArcStep.mk v a (kc:Int)]).length+tot (dom.set v.toNat (d.filter (· != a)))≤T:=by
    rw[List.length_append,List.length_singleton];omega
  have hB:B<(out++[ArcStep.mk v a (kc:Int)]).length:=by rw[List.length_append,List.length_singleton];have:=I.ge;omega
  refine⟨d,_,_,by rw[ixD hv.1 (by omega),← hd],hdv,rfl,sK d a (by omega) (by omega),nC d a (by omega),rfl,bS (by simp only[List.length_cons,List.length_nil];omega),by rw[xBm,xSp I.full hvn],?_,hok,hsum',hB,hk,fun he D'=>⟨hok,fun e hm=>?_,hsum',by omega,fun _=>hB,(fun h=>nomatch h),hk,fun h=>nomatch h⟩⟩
  · exact dX hv.1 (List.getElem?_set_self hvn)
  · rcases mem_set hm with hm | rfl
    · exact I.full e hm
    · intro h0;rw[h0] at he;simp at he
def RQ (K:List ArcStep→List (List Int)→Prop) (n B T:Nat) (r r':List ArcStep×List (List Int)):Prop:=r=r'∧DomOk n T r.2∧r.1.length+tot r.2≤T∧K r.1 r.2∧¬ pL r.2
def Sup (x:Template) (c:Con) (p:Nat) (v:Int) (dom:List (List Int)):Prop:=∀ a∈dom.getD v.toNat [],rM x c dom p a=true
theorem xJv {N:Nat} {K:List ArcStep→List (List Int)→Prop} {D:List (List Int)→Prop} {x:Template} {c:Con} {n B T kc p:Nat} {v:Int} {ρ ρ':Type} (F:List ArcStep×List (List Int)→ρ) (G:List ArcStep×List (List Int)→ρ') (hN:10≤N) (hNT:T<N) (hT:T≤1048576) (hc:ConOk x c n) (hp:p<c.scope.length) (hv:0≤v∧v<(n:Int)) (hK:xPq K x c kc p v)
    {f:Nat→Int→List ArcStep×Bool×List (List Int)→Option (Ctl (List ArcStep×Bool×List (List Int)) ρ)} {g:Nat→Int→List ArcStep×List (List Int)→Option (Ctl (List ArcStep×List (List Int)) ρ')}
    (hf:∀ k a out ch dom,f k a (out,ch,dom)=xY (bO (Template.mk x.size x.rels) (Con.mk c.rel c.scope) dom (p:Int) a) fun z=>if z then some (.go (out,ch,dom)) else xY (ix dom v) fun z1=>xY (bT N z1 a) fun z2=>xY (ap out [ArcStep.mk v a (kc:Int)]) fun z3=>xY (aR (dom.set v.toNat z2)) fun z4=>if z4 then some (.ret (F (z3,dom.set v.toNat z2))) else some (.go (z3,true,dom.set v.toNat z2)))
    (hg:∀ k a out dom,g k a (out,dom)=xY (cI N x c dom (p:Int) a) fun z=>if (!z) then xY (ix dom v) fun z1=>xY (aE z1 a) fun z2=>xY (ap out [ArcStep.mk v a (kc:Int)]) fun z3=>kY (σ:=Bool) (if true then xY (ix (dom.set v.toNat z2) v) fun z4=>some (.nx ((z4.length:Int)==0)) else some (.nx false)) fun s=>if s then some (.ret (G (z3,dom.set v.toNat z2))) else some (.go (z3,dom.set v.toNat z2)) else some (.go (out,dom)))
    (dom:List (List Int)) (out:List ArcStep) (ch:Bool) (I:PInv K n B T D dom out ch) :
    (∃ out' ch' dom',qW f (dom.getD v.toNat []) 0 (out,ch,dom)=some (.nx (out',ch',dom'))∧qW g (dom.getD v.toNat []) 0 (out,dom)=some (.nx (out',dom'))∧PInv K n B T (fun d=>D d∧Sup x c p v d) dom' out' ch') ∨
    (∃ r,qW f (dom.getD v.toNat []) 0 (out,ch,dom)=some (.ret (F r))∧qW g (dom.getD v.toNat []) 0 (out,dom)=some (.ret (G r))∧RQ K n B T r r):=by
  obtain⟨left,hleft⟩:∃ l,l=dom.getD v.toNat []:=⟨_,rfl⟩
  have hnd:left.Nodup:=by
    rw[hleft]
    have hvn:v.toNat<dom.length:=by have:=I.ok.len;omega
    rw[List.getD_eq_getElem?_getD,List.getElem?_eq_getElem hvn];exact I.ok.nd _ (List.getElem_mem hvn)
  rw[← hleft]
  rcases xEh (f:=f) (g:=g) (fun k s s'=>s'=(s.1,s.2.2)∧PInv K n B T (fun d=>D d∧d.getD v.toNat []=left∧∀ a∈left.take k,rM x c d p a=true) s.2.2 s.1 s.2.1∧∀ a∈left.drop k,a∈s.2.2.getD v.toNat []) (fun r r'=>∃ q,r=F q∧r'=G q∧RQ K n B T q q) left 0 (out,ch,dom) (out,dom) ⟨rfl,I.mono (fun h=>⟨h,hleft.symm,fun a ha=>by simp at ha⟩),fun a ha=>by rw[← hleft];simpa using ha⟩ (fun j a s s' hj hR=>by
    obtain⟨hs',I',hin⟩:=hR;obtain⟨o,c',dm⟩:=s;subst hs';rw[Nat.zero_add] at hin ⊢;have hd:=xSm hj
    have ham:a∈left.drop j:=by rw[hd];simp
    obtain⟨b,h0,h1,h2,h3⟩:=xQb (kc:=kc) hN hNT hT hc hp hv hK I' (hin a ham)
    cases b with
    | true=>
      refine .inl ⟨(o,c',dm),(o,dm),by rw[hf,h1,bnd_s,if_pos rfl],by rw[hg,h2,bnd_s];rfl,rfl,I'.mono (fun h=>⟨h.1,h.2.1,fun e he=>?_⟩),fun e he=>hin e ?_⟩
      · rw[List.take_add_one,hj] at he
        rcases List.mem_append.1 he with he | he
        · exact h.2.2 e (by rw[Nat.zero_add];exact he)
        · simp only[Option.toList,List.mem_singleton] at he
          rw[he];exact h0
      · rw[hd];simp [he]
    | false=>
      obtain⟨d,w,o',q1,q2,q3,q4,q5,q6,q7,q8,q9,q10,q11,q12,qk,q13⟩:=h3 rfl
      have ef:f j a (o,c',dm)=if ((w.length:Int)==0) then some (.ret (F (o',dm.set v.toNat w))) else some (.go (o',true,dm.set v.toNat w)):=by
        rw[hf,h1,bnd_s,if_neg (by simp),q1,bnd_s,q4,bnd_s,q7,bnd_s,q8,bnd_s]
      have eg:g j a (o,dm)=if ((w.length:Int)==0) then some (.ret (G (o',dm.set v.toNat w))) else some (.go (o',dm.set v.toNat w)):=by
        rw[hg,h2,bnd_s];simp only[Bool.not_false,if_true,q1,q5,q7,q9,bnd_s,thn_nx]
      cases hz:((w.length:Int)==0) with
      | true=>
        rw[hz] at ef eg
        have hvn:v.toNat<dm.length:=by have:dm.length=n:=I'.ok.len;omega
        exact .inr ⟨_,_,ef,eg,_,rfl,rfl,rfl,q10,q11,qk,fun hf=>hf w (List.mem_set hvn w) (List.length_eq_zero_iff.1 (by simpa using hz))⟩
      | false=>
        rw[hz] at ef eg;refine .inl ⟨_,_,ef,eg,rfl,q13 hz _,fun e he=>?_⟩
        have hvn:v.toNat<dm.length:=by have:dm.length=n:=I'.ok.len;omega
        show e∈(dm.set v.toNat w).getD v.toNat []
        rw[List.getD_eq_getElem?_getD,List.getElem?_set_self hvn,Option.getD_some,q3,List.mem_filter]
        have hnd2:(a::left.drop (j+1)).Nodup:=by rw[← hd];exact hnd.sublist (List.drop_sublist _ _)
        have hne:e≠a:=fun h=>(List.nodup_cons.1 hnd2).1 (h ▸ he);have h7:=hin e (by rw[hd];simp [he]);rw[List.getD_eq_getElem?_getD,q2,Option.getD_some] at h7
        exact⟨h7,by simpa using hne⟩) with ⟨t,t',h1,h2,h3,h4,_⟩ | ⟨r,r',h1,h2,q,h3,h4,h5⟩
  · obtain⟨o,c',dm⟩:=t
    exact .inl ⟨o,c',dm,h1,by rw[h2,h3],h4.mono (fun h=>⟨h.1,fun a ha=>by rw[h.2.1] at ha;exact h.2.2 a (by rw[Nat.zero_add,List.take_length];exact ha)⟩)⟩
  · exact .inr ⟨q,by rw[h1,h3],by rw[h2,h4],h5⟩
theorem uH (dom:List (List Int)):(dom.any (fun d=>(d.length:Int)==0))=false↔pL dom:=by
  rw[List.any_eq_false]
  constructor
  · intro h d hd h0
    exact h d hd (by rw[h0];rfl)
  · intro h d hd
    have:=h d hd;simp only[beq_iff_eq];intro h0;exact this (List.length_eq_zero_iff.1 (by omega))
theorem xEk {ρ:Type} (dom:List (List Int)) (hl:dom.length≤1048576) (h:pL dom) (r:ρ):∀ (N k:Nat),dom.length - k<N→k≤dom.length →
    lD (σ:=Int) (ρ:=ρ) (fun(s51:Int)=>
      kY (σ:=Bool) (
        if (decide (s51<(dom.length:Int))) then   some (.nx true) else   some (.nx false)) fun s66=>
      if s66 then
        xY (ix dom s51) fun z70=>
        if ((z70.length:Int)==0) then
          some (.ret r)
        else
          xY (ck (s51+1)) fun z83=>
          some (.go z83)
      else
        some (.brk s51)) N (k:Int)=some (.nx ((dom.length:Nat):Int))
  | 0,_,h,_=>by omega
  | N+1,k,hN,hk=>by
    by_cases hlt:k<dom.length
    · have hd:decide ((k:Int)<(dom.length:Int))=true:=by simp;exact hlt
      have hx:ix dom (k:Int)=some dom[k]:=zI (List.getElem?_eq_getElem hlt);have hc1:ck ((k:Int)+1)=some (((k+1:Nat)):Int):=kI (by omega) (by omega)
      have hz:((dom[k].length:Int)==0)=false:=(by
        have:=h dom[k] (List.getElem_mem hlt);simp only[beq_eq_false_iff_ne];intro h0
        exact this (List.length_eq_zero_iff.1 (by omega)))
      rw[mY (s':=((k+1:Nat):Int)) (by simp only[hd,if_true,thn_nx,hx,bnd_s,hz,Bool.false_eq_true,if_false,hc1])];exact xEk dom hl h r N (k+1) (by omega) (by omega)
    · obtain rfl:k=dom.length:=by omega
      have hd:decide (((dom.length:Nat):Int)<(dom.length:Int))=false:=by simp
      exact iP (by simp only[hd,Bool.false_eq_true,if_false,thn_nx])
theorem xBc {ρ:Type} (dom:List (List Int)) (hl:dom.length≤1048576) (r:ρ):∀ (N k:Nat),dom.length - k<N→k≤dom.length→((dom.drop k).any (fun d=>(d.length:Int)==0))=true →
    lD (σ:=Int) (ρ:=ρ) (fun(s51:Int)=>
      kY (σ:=Bool) (
        if (decide (s51<(dom.length:Int))) then   some (.nx true) else   some (.nx false)) fun s66=>
      if s66 then
        xY (ix dom s51) fun z70=>
        if ((z70.length:Int)==0) then
          some (.ret r)
        else
          xY (ck (s51+1)) fun z83=>
          some (.go z83)
      else
        some (.brk s51)) N (k:Int)=some (.ret r)
  | 0,_,h,_,_=>by omega
  | N+1,k,hN,hk,ha=>by
    by_cases hlt:k<dom.length
    · have hd:decide ((k:Int)<(dom.length:Int))=true:=by simp;exact hlt
      have hx:ix dom (k:Int)=some dom[k]:=zI (List.getElem?_eq_getElem hlt);have hc1:ck ((k:Int)+1)=some (((k+1:Nat)):Int):=kI (by omega) (by omega);rw[List.drop_eq_getElem_cons hlt,List.any_cons,Bool.or_eq_true] at ha
      cases hz:((dom[k].length:Int)==0) with
      | true=>exact wN (by simp only[hd,if_true,thn_nx,hx,bnd_s,hz])
      | false=>
        rw[mY (s':=((k+1:Nat):Int)) (by simp only[hd,if_true,thn_nx,hx,bnd_s,hz,Bool.false_eq_true,if_false,hc1])];exact xBc dom hl r N (k+1) (by omega) (by omega) (ha.resolve_left (by rw[hz];simp))
    · rw[List.drop_eq_nil_of_le (by omega)] at ha
      simp at ha
theorem xVb {ρ:Type} (dom:List (List Int)) (hl:dom.length≤1048576) (h:pL dom) (r:ρ) {N:Nat} (hN:dom.length<N) {s0:Int} (hs:s0=((0:Nat):Int)) :
    lD (σ:=Int) (ρ:=ρ) (fun(s51:Int)=>
      kY (σ:=Bool) (
        if (decide (s51<(dom.length:Int))) then   some (.nx true) else   some (.nx false)) fun s66=>
      if s66 then
        xY (ix dom s51) fun z70=>
        if ((z70.length:Int)==0) then
          some (.ret r)
        else
          xY (ck (s51+1)) fun z83=>
          some (.go z83)
      else
        some (.brk s51)) N s0=some (.nx ((dom.length:Nat):Int)):=by rw[hs];exact xEk dom hl h r N 0 (by omega) (Nat.zero_le _)
theorem xUk {ρ:Type} (dom:List (List Int)) (hl:dom.length≤1048576) (h:¬ pL dom) (r:ρ) {N:Nat} (hN:dom.length<N) {s0:Int} (hs:s0=((0:Nat):Int)) :
    lD (σ:=Int) (ρ:=ρ) (fun(s51:Int)=>
      kY (σ:=Bool) (
        if (decide (s51<(dom.length:Int))) then   some (.nx true) else   some (.nx false)) fun s66=>
      if s66 then
        xY (ix dom s51) fun z70=>
        if ((z70.length:Int)==0) then
          some (.ret r)
        else
          xY (ck (s51+1)) fun z83=>
          some (.go z83)
      else
        some (.brk s51)) N s0=some (.ret r):=by
  have h2:(dom.any (fun d=>(d.length:Int)==0))=true:=by
    cases h3:(dom.any (fun d=>(d.length:Int)==0)) with
    | true=>rfl
    | false=>exact absurd ((uH dom).1 h3) h
  rw[hs];exact xBc dom hl r N 0 (by omega) (Nat.zero_le _) (by simpa using h2)
def fE {α β:Type} (a:Option α) (b:Option β) (P:α→β→Prop):Prop:=∃ x y,a=some x∧b=some y∧P x y
def xSt {σ σ' ρ ρ':Type} (R:σ→σ'→Prop) (Q:ρ→ρ'→Prop):Out σ ρ→Out σ' ρ'→Prop
  | .nx s,.nx s'=>R s s'
  | .ret r,.ret r'=>Q r r'
  | _,_=>False
def xVk {σ σ' ρ ρ':Type} (R E:σ→σ'→Prop) (Q:ρ→ρ'→Prop):Ctl σ ρ→Ctl σ' ρ'→Prop
  | .go s,.go s'=>R s s'
  | .brk s,.brk s'=>E s s'
  | .ret r,.ret r'=>Q r r'
  | _,_=>False
section
variable {α β γ δ σ σ' ρ ρ':Type} {P:γ→δ→Prop}
theorem fE.s {a:γ} {b:δ} (h:P a b):fE (some a) (some b) P:=⟨a,b,rfl,rfl,h⟩
theorem fE.mono {P':γ→δ→Prop} {a:Option γ} {b:Option δ} (h:fE a b P) (k:∀ x y,P x y→P' x y):fE a b P':=let ⟨x,y,h1,h2,h3⟩:=h;⟨x,y,h1,h2,k x y h3⟩
theorem fE.bnd {A:α→β→Prop} {o:Option α} {o':Option β} {k:α→Option γ} {k':β→Option δ} (h:fE o o' A) (hk:∀ a b,A a b→fE (k a) (k' b) P):fE (xY o k) (xY o' k') P:=by
  obtain⟨a,b,rfl,rfl,h⟩:=h;exact hk a b h
theorem fE.l {o:Option α} {k:α→Option γ} {b:Option δ} {a:α} (h:o=some a) (hk:fE (k a) b P):fE (Go.Proofs.YtfmnjkpddljdcaaGreatDoor.xY o k) b P:=by rw[h];exact hk
theorem fE.r {o:Option α} {k:α→Option δ} {b:Option γ} {a:α} (h:o=some a) (hk:fE b (k a) P):fE b (Go.Proofs.YtfmnjkpddljdcaaGreatDoor.xY o k) P:=by rw[h];exact hk
theorem fE.thn (R:σ→σ'→Prop) (Q:γ→δ→Prop) {o:Option (Out σ γ)} {o':Option (Out σ' δ)} {k:σ→Option γ} {k':σ'→Option δ} (h:fE o o' (xSt R Q)) (hk:∀ a b,R a b→fE (k a) (k' b) P) (hq:∀ a b,Q a b→P a b):fE (kY o k) (kY o' k') P:=by
  obtain⟨a,b,rfl,rfl,h⟩:=h
  cases a<;>cases b<;>first | exact hk _ _ h | exact fE.s (hq _ _ h) | exact h.elim
theorem fE.forL (R:Nat→σ→σ'→Prop) (Q:ρ→ρ'→Prop) {f:Nat→α→σ→Option (Ctl σ ρ)} {g:Nat→α→σ'→Option (Ctl σ' ρ')} {l:List α} {k:Nat} {s:σ} {s':σ'} (h:R k s s')
    (hh:∀ j x s s',l[j]?=some x→R (k+j) s s'→fE (f (k+j) x s) (g (k+j) x s') (xVk (R (k+j+1)) (fun _ _=>False) Q)):fE (qW f l k s) (qW g l k s') (xSt (R (k+l.length)) Q):=by
  rcases xEh R Q l k s s' h (fun j x s s' hj hr=>by
    obtain⟨a,b,h1,h2,h3⟩:=hh j x s s' hj hr
    cases a<;>cases b<;>first | exact .inl ⟨_,_,h1,h2,h3⟩ | exact .inr ⟨_,_,h1,h2,h3⟩ | exact h3.elim) with ⟨t,t',h1,h2,h3⟩ | ⟨r,r',h1,h2,h3⟩
  · exact⟨_,_,h1,h2,h3⟩
  · exact⟨_,_,h1,h2,h3⟩
theorem fE.whl (R:σ→σ'→Prop) (E:σ→σ'→Prop) (Q:ρ→ρ'→Prop) (μ:σ→Nat) {f:σ→Option (Ctl σ ρ)} {g:σ'→Option (Ctl σ' ρ')} {N:Nat} {s:σ} {s':σ'} (hN:μ s<N) (h:R s s')
    (hh:∀ s s',R s s'→fE (f s) (g s') (xVk (fun t t'=>R t t'∧μ t<μ s) E Q)):fE (lD f N s) (lD g N s') (xSt E Q):=by
  rcases xMj R E Q μ (fun s s' hr=>by
    obtain⟨a,b,h1,h2,h3⟩:=hh s s' hr
    cases a<;>cases b<;>first | exact .inl ⟨_,_,h1,h2,h3.1,h3.2⟩ | exact .inr (.inl ⟨_,_,h1,h2,h3⟩) | exact .inr (.inr ⟨_,_,h1,h2,h3⟩) | exact h3.elim) N s s' hN h with ⟨t,t',h1,h2,h3⟩ | ⟨r,r',h1,h2,h3⟩
  · exact⟨_,_,h1,h2,h3⟩
  · exact⟨_,_,h1,h2,h3⟩
end
theorem xNl {N:Nat} {x:Template} {y:Instance} {dom:List (List Int)} (hl:dom.length≤1048576) (hN:dom.length<N) (h:¬ pL dom):bZ N x y dom true=some ([],dom):=by
  unfold bZ
  rw[xUk dom hl h _ hN (s0:=0) rfl,thn_ret]
theorem xSa {N:Nat} {K:List ArcStep→List (List Int)→Prop} {D:List (List Int)→Prop} {x:Template} {c:Con} {n B T kc p:Nat} {v:Int} {ρ ρ':Type} {F:List ArcStep×List (List Int)→ρ} {G:List ArcStep×List (List Int)→ρ'} (hN:10≤N) (hNT:T<N) (hT:T≤1048576) (hc:ConOk x c n) (hp:p<c.scope.length) (hv:0≤v∧v<(n:Int)) (hK:xPq K x c kc p v)
    {f:Nat→Int→List ArcStep×Bool×List (List Int)→Option (Ctl (List ArcStep×Bool×List (List Int)) ρ)} {g:Nat→Int→List ArcStep×List (List Int)→Option (Ctl (List ArcStep×List (List Int)) ρ')}
    (hf:∀ k a out ch dom,f k a (out,ch,dom)=xY (bO (Template.mk x.size x.rels) (Con.mk c.rel c.scope) dom (p:Int) a) fun z=>if z then some (.go (out,ch,dom)) else xY (ix dom v) fun z1=>xY (bT N z1 a) fun z2=>xY (ap out [ArcStep.mk v a (kc:Int)]) fun z3=>xY (aR (dom.set v.toNat z2)) fun z4=>if z4 then some (.ret (F (z3,dom.set v.toNat z2))) else some (.go (z3,true,dom.set v.toNat z2)))
    (hg:∀ k a out dom,g k a (out,dom)=xY (cI N x c dom (p:Int) a) fun z=>if (!z) then xY (ix dom v) fun z1=>xY (aE z1 a) fun z2=>xY (ap out [ArcStep.mk v a (kc:Int)]) fun z3=>kY (σ:=Bool) (if true then xY (ix (dom.set v.toNat z2) v) fun z4=>some (.nx ((z4.length:Int)==0)) else some (.nx false)) fun s=>if s then some (.ret (G (z3,dom.set v.toNat z2))) else some (.go (z3,dom.set v.toNat z2)) else some (.go (out,dom)))
    (dom:List (List Int)) (out:List ArcStep) (ch:Bool) (I:PInv K n B T D dom out ch) :
    fE (qW f (dom.getD v.toNat []) 0 (out,ch,dom)) (qW g (dom.getD v.toNat []) 0 (out,dom)) (xSt (fun s s'=>s'=(s.1,s.2.2)∧PInv K n B T (fun d=>D d∧Sup x c p v d) s.2.2 s.1 s.2.1) (fun r r'=>∃ q,r=F q∧r'=G q∧RQ K n B T q q)):=by
  rcases xJv F G hN hNT hT hc hp hv hK hf hg dom out ch I with ⟨o3,c3,d3,h1,h2,h3⟩ | ⟨q,h1,h2,h3⟩
  · exact⟨_,_,h1,h2,rfl,h3⟩
  · exact⟨_,_,h1,h2,q,rfl,rfl,h3⟩
def xCs (x:Template) (y:Instance) (k:Nat) (dom:List (List Int)):Prop:=∀ c∈y.cons.take k,∀ p v,c.scope[p]?=some v→Sup x c p v dom
theorem xQg {N:Nat} {K:List ArcStep→List (List Int)→Prop} {x:Template} {y:Instance} {n:Nat} {dom:List (List Int)} (hK:∀ kc c,y.cons[kc]?=some c→∀ p v,c.scope[p]?=some v→xPq K x c kc p v) (hK0:K [] dom) (hN:10≤N) (hy:∀ c∈y.cons,ConOk x c n) (hok:DomOk n (tot dom) dom) (hT:tot dom≤1000) (hNT:tot dom+1<N) (hn:n≤1000) (hNn:n<N) (hF:pL dom) :
    fE (rK N x y dom (fun d=>aR d)) (bZ N x y dom true) (fun r r'=>r=r'∧DomOk n (tot dom) r.2∧r.1.length+tot r.2≤tot dom∧K r.1 r.2∧(pL r.2→xCs x y y.cons.length r.2)):=by
  obtain⟨T,hTd⟩:∃ T,T=tot dom:=⟨_,rfl⟩;rw[← hTd] at hok hT hNT ⊢;have hlen:=hok.len
  unfold rK bZ
  rw[xVb dom (by omega) hF _ (by omega) (s0:=0) rfl,thn_nx];refine fE.thn (fun t t'=>t'.1=t.1∧t'.2.2=t.2.2∧DomOk n T t.2.2∧t.1.length+tot t.2.2≤T∧K t.1 t.2.2∧xCs x y y.cons.length t.2.2) (fun r r'=>RQ K n 0 T r r') (fE.whl (fun s s'=>∃ bf:Int,s'=(s.1,bf,s.2.2)∧(s.2.1=true↔bf≠(s.1.length:Int))∧DomOk n T s.2.2∧pL s.2.2∧s.1.length+tot s.2.2≤T∧K s.1 s.2.2∧(s.2.1=false→xCs x y y.cons.length s.2.2)) _ _ (fun s=>tot s.2.2+(if s.2.1 then 1 else 0)) ?_ ⟨-1,rfl,⟨fun _=>by simp,fun _=>rfl⟩,hok,hF,by simp [hTd],hK0,fun h=>nomatch h⟩ (fun s s' hR=>?_)) (fun t t' h=>?_) (fun r r' h=>⟨h.1,h.2.1,h.2.2.1,h.2.2.2.1,fun hf=>absurd hf h.2.2.2.2⟩)
  · simp only[if_true];omega
  · obtain⟨out,ch,dm⟩:=s
    obtain⟨bf,rfl,hb,ok,fl,hs,hk,hsu⟩:=hR;simp only at hb ok fl hs hk hsu ⊢
    cases ch with
    | false=>
      have hbf:bf=(out.length:Int):=by
        by_cases h:bf=(out.length:Int)
        · exact h
        · exact absurd (hb.2 h) (by simp)
      rw[if_neg (by simp),if_neg (by simp [hbf])];exact fE.s ⟨rfl,rfl,ok,hs,hk,hsu rfl⟩
    | true=>
      have I0:PInv K n out.length (out.length+tot dm) (xCs x y 0) dm out false:=⟨⟨ok.len,ok.nd,by omega⟩,fl,Nat.le_refl _,Nat.le_refl _,(fun h=>nomatch h),(fun _=>rfl),hk,fun _ c hc=>by simp at hc⟩;have hT2:out.length+tot dm≤T:=hs;obtain⟨T2,hT2d⟩:∃ T2,T2=out.length+tot dm:=⟨_,rfl⟩;rw[← hT2d] at I0 hT2;rw[if_pos rfl,if_pos (by simpa using hb.1 rfl)];refine fE.thn (fun s s'=>s'=(s.1,s.2.2)∧PInv K n out.length T2 (xCs x y y.cons.length) s.2.2 s.1 s.2.1) (fun r r'=>∃ q,r= .ret q∧r'= .ret q∧RQ K n 0 T2 q q) (fE.mono (fE.forL (fun k s s'=>s'=(s.1,s.2.2)∧PInv K n out.length T2 (xCs x y k) s.2.2 s.1 s.2.1) _ ⟨rfl,I0⟩ (fun j c s s' hj hR=>?_)) (fun a b h=>by rw[Nat.zero_add] at h;exact h)) (fun a b h=>?_) (fun r r' h=>?_)
      · obtain⟨o1,c1,d1⟩:=s
        obtain⟨rfl,I1⟩:=hR;have hcm:=List.mem_of_getElem? hj;have hc:=hy c hcm;rw[Nat.zero_add] at I1 ⊢;refine fE.thn (fun s s'=>s'=(s.1,s.2.2)∧PInv K n out.length T2 (xCs x y (j+1)) s.2.2 s.1 s.2.1) (fun r r'=>∃ q,r= .ret (.ret q)∧r'= .ret (.ret q)∧RQ K n 0 T2 q q) (fE.mono (fE.forL (fun k s s'=>s'=(s.1,s.2.2)∧PInv K n out.length T2 (fun d=>xCs x y j d∧∀ p v,p<k→c.scope[p]?=some v→Sup x c p v d) s.2.2 s.1 s.2.1) (fun r r'=>∃ q,r= .ret (.ret q)∧r'= .ret (.ret q)∧RQ K n 0 T2 q q) ⟨rfl,I1.mono (fun h=>⟨h,fun p v hp=>by omega⟩)⟩ (fun p v s s' hp hR=>?_)) (fun a b h=>?_)) (fun a b h=>?_) (fun r r' h=>?_)
        · obtain⟨o2,c2,d2⟩:=s
          obtain⟨rfl,I2⟩:=hR;simp only at I2 ⊢;have hpl:p<c.scope.length:=(List.getElem?_eq_some_iff.1 hp).1;have hv:=hc.sc v (List.mem_of_getElem? hp);have hl2:=I2.ok.len
          have hvn:v.toNat<d2.length:=by omega
          have hdl:(d2.getD v.toNat []).length≤1048576:=by
            have h9:d2.getD v.toNat []∈d2:=by rw[List.getD_eq_getElem?_getD,List.getElem?_eq_getElem hvn];exact List.getElem_mem hvn
            have:=fA h9;have:=I2.ok.le
            omega
          refine fE.l (ixD hv.1 (by omega)) (fE.r (ixD hv.1 (by omega)) (fE.l (xCy _ hdl) (fE.r (own_eq _ hdl) ?_)));rw[Nat.zero_add] at I2 ⊢;refine fE.thn (fun s s'=>s'=(s.1,s.2.2)∧PInv K n out.length T2 (fun d=>(xCs x y j d∧∀ p' v,p'<p→c.scope[p']?=some v→Sup x c p' v d)∧Sup x c p v d) s.2.2 s.1 s.2.1) (fun r r'=>∃ q,r= .ret (.ret (.ret q))∧r'= .ret (.ret (.ret q))∧RQ K n 0 T2 q q) ?_ (fun a b h=>?_) (fun r r' h=>?_)
          · refine fE.mono (xSa (kc:=j) (B:=out.length) (F:=fun q=>Ctl.ret (Ctl.ret (Ctl.ret q))) (G:=fun q=>Ctl.ret (Ctl.ret (Ctl.ret q))) hN (show T2<N by omega) (by omega) hc hpl hv (hK j c hj p v hp) ?_ ?_ d2 o2 c2 I2) (fun a b h=>?_)
            · intro _ _ _ _ _;rfl
            · intro _ _ _ _;rfl
            · cases a<;>cases b<;>first | exact h.elim | (obtain⟨q,h1,h2,h3⟩:=h;exact⟨q,h1,h2,h3.1,h3.2.1,h3.2.2⟩) | exact h
          · obtain⟨o3,c3,d3⟩:=a
            obtain⟨rfl,h⟩:=h;refine fE.s ⟨rfl,h.mono (fun h=>⟨h.1.1,fun p' v' hp' hv'=>?_⟩)⟩
            by_cases e:p'=p
            · subst e
              rw[hp] at hv'
              cases hv'
              exact h.2
            · exact h.1.2 p' v' (by omega) hv'
          · obtain⟨q,rfl,rfl,h⟩:=h
            exact⟨q,rfl,rfl,h⟩
        · cases a<;>cases b<;>first | exact⟨h.1,h.2.mono (fun h c' hc'=>by
            rw[List.take_add_one,hj] at hc'
            rcases List.mem_append.1 hc' with hc' | hc'
            · exact h.1 c' hc'
            · simp only[Option.toList,List.mem_singleton] at hc'
              subst hc'
              exact fun p v hp=>h.2 p v (by rw[Nat.zero_add];exact(List.getElem?_eq_some_iff.1 hp).1) hp)⟩ | exact h
        · obtain⟨o3,c3,d3⟩:=a
          obtain⟨rfl,h⟩:=h;exact fE.s ⟨rfl,h⟩
        · obtain⟨q,rfl,rfl,h⟩:=h
          exact⟨q,rfl,rfl,h⟩
      · obtain⟨o3,c3,d3⟩:=a
        obtain⟨rfl,h⟩:=h;have h6:=h.sum;have h7:=h.ge;simp only at h h6 h7 ⊢;refine fE.s ⟨⟨(out.length:Int),rfl,?_,⟨h.ok.len,h.ok.nd,Nat.le_trans h.ok.le hT2⟩,h.full,(show o3.length+tot d3≤T by omega),h.k,h.con⟩,?_⟩
        · constructor
          · intro hc;have:=h.yes hc;show(out.length:Int)≠(o3.length:Int);omega
          · intro hc
            change (out.length:Int)≠(o3.length:Int) at hc
            cases hc3:c3 with
            | true=>rfl
            | false=>have:=h.no hc3;exact absurd (by omega) hc
        · cases hc3:c3 with
          | true=>have:=h.yes hc3;simp only[if_true];omega
          | false=>have:=h.no hc3;simp only[Bool.false_eq_true,if_false,if_true];omega
      · obtain⟨q,rfl,rfl,h1,h2,h3,h4⟩:=h
        exact⟨rfl,⟨h2.len,h2.nd,Nat.le_trans h2.le hT2⟩,by omega,h4⟩
  · obtain⟨h1,h2,h3,h4,h5,h6⟩:=h
    obtain⟨o,c,d⟩:=t;obtain⟨o',c',d'⟩:=t';simp only at h1 h2 h3 h4 h5 h6 ⊢;subst h1 h2;exact fE.s ⟨rfl,h3,h4,h5,fun _=>h6⟩
end Go.Proofs.YtfmnjkpddljdcaaGreatDoor
namespace Go.Proofs.YtfmnjkpddljdcaaGreatDoor
set_option linter.unusedVariables false
set_option linter.unusedSimpArgs false
theorem xRf {a b:Int}:rA a b<0↔a<b:=by
  unfold rA
  split
  · constructor<;>omega
  · split<;>constructor<;>omega
theorem rL {a b:Int} {l m:List Int}:eW (a::l) (b::m)<0↔a<b∨a=b∧eW l m<0:=by
  rw[show eW (a::l) (b::m)=if rA a b≠0 then rA a b else eW l m from rfl]
  by_cases h:rA a b=0
  · rw[if_neg (by simp [h])]
    have:=pJ.1 h;subst this
    constructor
    · exact fun h=>.inr ⟨rfl,h⟩
    · rintro (h | ⟨_,h⟩)
      · omega
      · exact h
  · rw[if_pos h,xRf]
    have:a≠b:=fun e=>h (pJ.2 e)
    constructor
    · exact .inl
    · rintro (h | ⟨h,_⟩)
      · exact h
      · exact absurd h this
theorem pI:∀ {l m:List Int},eW l m=0↔l=m
  | [],[]=>by simp [eW]
  | [],_::_=>by simp [eW]
  | _::_,[]=>by simp [eW]
  | a::l,b::m=>by
    rw[show eW (a::l) (b::m)=if rA a b≠0 then rA a b else eW l m from rfl]
    by_cases h:rA a b=0
    · rw[if_neg (by simp [h]),pI]
      have:=pJ.1 h
      simp [this]
    · rw[if_pos h]
      have:a≠b:=fun e=>h (pJ.2 e)
      simp [this,h]
theorem pY:∀ {l m n:List Int},eW l m<0→eW m n<0→eW l n<0
  | [],[],_,h,_=>by simp [eW] at h
  | [],_::_,[],_,h=>by simp [eW] at h
  | [],_::_,_::_,_,_=>by simp [eW]
  | _::_,[],_,h,_=>by simp [eW] at h
  | _::_,_::_,[],_,h=>by simp [eW] at h
  | a::l,b::m,c::n,h1,h2=>by
    rw[rL] at *
    rcases h1 with h1 | ⟨rfl,h1⟩
    · rcases h2 with h2 | ⟨rfl,h2⟩
      · exact .inl (by omega)
      · exact .inl h1
    · rcases h2 with h2 | ⟨rfl,h2⟩
      · exact .inl h2
      · exact .inr ⟨rfl,pY h1 h2⟩
def Asc (l:List (List Int)):Prop:=l.Pairwise fun a b=>eW a b<0
theorem xOx:∀ {l:List (List Int)},(∀ j t u,l[j]?=some t→l[j+1]?=some u→eW t u<0)→Asc l
  | [],_=>List.Pairwise.nil
  | [_],_=>List.pairwise_singleton _ _
  | a::b::l,h=>by
    have ih:Asc (b::l):=xOx (fun j t u ht hu=>h (j+1) t u (by simpa using ht) (by simpa using hu));have hab:eW a b<0:=h 0 a b rfl rfl;refine List.Pairwise.cons (fun c hc=>?_) ih
    rcases List.mem_cons.1 hc with rfl | hc
    · exact hab
    · exact pY hab (List.rel_of_pairwise_cons ih hc)
theorem Asc.lt {l:List (List Int)} (h:Asc l) {i j:Nat} {t u:List Int} (hij:i<j) (ht:l[i]?=some t) (hu:l[j]?=some u):eW t u<0:=by
  obtain⟨hi,rfl⟩:=List.getElem?_eq_some_iff.1 ht;obtain⟨hj,rfl⟩:=List.getElem?_eq_some_iff.1 hu;exact List.pairwise_iff_getElem.1 h i j hi hj hij
theorem Asc.ext:∀ {l m:List (List Int)},Asc l→Asc m→(∀ x,x∈l↔x∈m)→l=m
  | [],[],_,_,_=>rfl
  | [],b::m,_,_,h=>absurd ((h b).2 (by simp)) (by simp)
  | a::l,[],_,_,h=>absurd ((h a).1 (by simp)) (by simp)
  | a::l,b::m,hl,hm,h=>by
    have irr:∀ x:List Int,¬ eW x x<0:=fun x=>by rw[pI.2 rfl];omega
    have hab:a=b:=by
      rcases List.mem_cons.1 ((h a).1 (by simp)) with e | h1
      · exact e
      · rcases List.mem_cons.1 ((h b).2 (by simp)) with e | h2
        · exact e.symm
        · exact absurd (pY (List.rel_of_pairwise_cons hm h1) (List.rel_of_pairwise_cons hl h2)) (irr _)
    subst hab
    congr 1
    refine Asc.ext (List.Pairwise.of_cons hl) (List.Pairwise.of_cons hm) (fun x=>⟨fun hx=>?_,fun hx=>?_⟩)
    · rcases List.mem_cons.1 ((h x).1 (by simp [hx])) with rfl | h1
      · exact absurd (List.rel_of_pairwise_cons hl hx) (irr _)
      · exact h1
    · rcases List.mem_cons.1 ((h x).2 (by simp [hx])) with rfl | h1
      · exact absurd (List.rel_of_pairwise_cons hm hx) (irr _)
      · exact h1
theorem xDx (d v:List Int):jG d v=some (decide (d=v)):=by
  unfold jG
  by_cases hl:d.length=v.length
  · rw[if_neg (by simp [hl])]
    rw[gZ (ρ:=Bool) (fun k x=>if (v[k]? != some x)=true then some false else none) (fun j x hj=>by
      have hjl:=(List.getElem?_eq_some_iff.1 hj).1
      have hv:v[0+j]?=some (v[j]'(by omega)):=by rw[Nat.zero_add];exact List.getElem?_eq_getElem _
      simp only[zI hv,bnd_s,hv]
      by_cases hx:x=v[j]'(by omega)
      · subst hx;simp [wR]
      · have:(x != v[j]'(by omega))=true:=by simpa using hx
        have h2:(some (v[j]'(by omega)) != some x)=true:=by simpa using fun e=>hx e.symm
        rw[this,h2]
        rfl)]
    have key:∀ (d:List Int) (k:Nat),k+d.length=v.length→fnd (fun k x=>if (v[k]? != some x)=true then some false else none) d k=if d=v.drop k then none else some false:=by
      intro d
      induction d with
      | nil=>
        intro k hk;have:v.drop k=[]:=List.drop_eq_nil_of_le (by simp at hk;omega);rw[this]
        rfl
      | cons x d ih=>
        intro k hk
        have hkl:k<v.length:=by simp at hk;omega
        have hd:v.drop k=v[k]::v.drop (k+1):=List.drop_eq_getElem_cons hkl
        unfold fnd
        rw[hd,List.getElem?_eq_getElem hkl]
        by_cases hx:x=v[k]
        · have e1:(some v[k] != some x)=false:=by rw[hx];simp
          rw[e1,if_neg (by simp),ih (k+1) (by simp at hk;omega),hx];simp only[List.cons.injEq,true_and]
        · have h2:(some v[k] != some x)=true:=by simpa using fun e=>hx e.symm
          rw[h2,if_pos rfl,if_neg (fun e=>hx (List.cons.inj e).1)]
    rw[key d 0 (by omega),List.drop_zero]
    by_cases hd:d=v
    · rw[if_pos hd];simp [xHp,hd]
    · rw[if_neg hd];simp [xHp,hd]
  · rw[if_pos (by simpa using fun e=>hl (by omega))]
    have:d≠v:=fun e=>hl (by rw[e])
    simp [this]
theorem xAi {L:List (List Int)} {t:List Int} (hL:Asc L) (hlen:L.length≤1000000) {f:List Int→List Int→Option Int} (hf:∀ a b,f a b=some (eW a b)):∀ (g lo hi N:Nat),hi - lo≤g→g+1≤N→lo≤hi→hi≤L.length→(∀ i x,i<lo→L[i]?=some x→eW x t<0)→(∀ i x,hi≤i→L[i]?=some x→¬ eW x t<0) →
    ∃ k:Nat,k≤L.length∧(∀ i x,i<k→L[i]?=some x→eW x t<0)∧(∀ i x,k≤i→L[i]?=some x→¬ eW x t<0) ∧
    lD (σ:=Int×Int) (ρ:=Int×Bool) (fun(s:Int×Int)=>
    match s with
    | (s39,s41)=>
    if (decide (s39<s41)) then
     xY (ck (s39+s41)) fun z54=>
     xY (nn z54) fun z56=>
     xY (ix L (z56 / 2)) fun z59=>
     xY (f z59 t) fun z65=>
     if (decide (z65<0)) then
      xY (ck ((z56 / 2)+1)) fun z68=>
      some (.go (z68,s41))
     else
      some (.go (s39,(z56 / 2)))
    else
     some (.brk (s39,s41))) N ((lo:Int),(hi:Int))=some (.nx ((k:Int),(k:Int)))
  | g,lo,hi,N,hg,hN,hlh,hh,h1,h2=>by
    obtain⟨M,rfl⟩:∃ M,N=M+1:=⟨N - 1,by omega⟩
    by_cases hlt:lo<hi
    · cases g with
      | zero=>omega
      | succ g=>
      have hm:(lo+hi) / 2<L.length:=by omega
      have e2:((lo:Int)+(hi:Int)) / 2=(((lo+hi) / 2:Nat):Int):=by omega
      have hx:L[(lo+hi) / 2]?=some L[(lo+hi) / 2]:=List.getElem?_eq_getElem hm
      by_cases hc:eW L[(lo+hi) / 2] t<0
      · obtain⟨k,k1,k2,k3,k4⟩:=xAi hL hlen hf g ((lo+hi) / 2+1) hi M (by omega) (by omega) (by omega) hh (fun i x hi' hix=>by
          rcases Nat.lt_or_ge i ((lo+hi) / 2) with h | h
          · exact pY (hL.lt h hix hx) hc
          · obtain rfl:i=(lo+hi) / 2:=by omega
            rw[hx] at hix;rw[← Option.some.inj hix]
            exact hc) h2
        refine⟨k,k1,k2,k3,?_⟩
        rw[mY (s':=((((lo+hi) / 2+1:Nat):Int),(hi:Int))) (by
          have h3:(lo:Int)<(hi:Int):=by omega
          simp only[h3,decide_true,if_true,kI (x:=(lo:Int)+(hi:Int)) (by omega) (by omega),bnd_s,xLv (x:=(lo:Int)+(hi:Int)) (by omega),e2,zI hx,hf,hc,kI (x:=(((lo+hi) / 2:Nat):Int)+1) (by omega) (by omega)]
          rfl)]
        exact k4
      · obtain⟨k,k1,k2,k3,k4⟩:=xAi hL hlen hf g lo ((lo+hi) / 2) M (by omega) (by omega) (by omega) (by omega) h1 (fun i x hi' hix=>by
          rcases Nat.lt_or_ge ((lo+hi) / 2) i with h | h
          · exact fun h4=>hc (pY (hL.lt h hx hix) h4)
          · obtain rfl:i=(lo+hi) / 2:=by omega
            rw[hx] at hix;rw[← Option.some.inj hix]
            exact hc)
        refine⟨k,k1,k2,k3,?_⟩
        rw[mY (s':=((lo:Int),(((lo+hi) / 2:Nat):Int))) (by
          have h3:(lo:Int)<(hi:Int):=by omega
          simp only[h3,decide_true,if_true,kI (x:=(lo:Int)+(hi:Int)) (by omega) (by omega),bnd_s,xLv (x:=(lo:Int)+(hi:Int)) (by omega),e2,zI hx,hf,hc,decide_false,Bool.false_eq_true,if_false])]
        exact k4
    · obtain rfl:lo=hi:=by omega
      refine⟨lo,hh,h1,h2,?_⟩;rw[iP]
      simp
theorem xUl {N:Nat} {r:Rel} {t:List Int} (hr:Asc r.tuples) (hlen:r.tuples.length≤1000) (hN:1002≤N):mB N r t=some (decide (t∈r.tuples)):=by
  unfold mB zX
  have hf:∀ a b,iZ a b=some (eW a b):=fun a b=>by unfold iZ;rw[xCr];rfl
  obtain⟨k,k1,k2,k3,k4⟩:=xAi (t:=t) hr (by omega) hf r.tuples.length 0 r.tuples.length N (by omega) (by omega) (by omega) (by omega) (fun i x hi=>absurd hi (by omega)) (fun i x hi hx=>absurd (List.getElem?_eq_some_iff.1 hx).1 (by omega));rw[show((0:Nat):Int)=0 from rfl] at k4;rw[k4,thn_nx]
  by_cases hk:k<r.tuples.length
  · have hx:r.tuples[k]?=some r.tuples[k]:=List.getElem?_eq_getElem hk
    have h1:(k:Int)<(r.tuples.length:Int):=by omega
    simp only[h1,decide_true,if_true,zI hx,bnd_s,hf,thn_nx]
    congr 1
    rw[show(eW r.tuples[k] t==0)=decide (eW r.tuples[k] t=0) from rfl];refine decide_eq_decide.2 ⟨fun h=>?_,fun h=>?_⟩
    · rw[← pI.1 h];exact List.getElem_mem hk
    · obtain⟨j,hj,e⟩:=List.getElem_of_mem h
      have hjx:r.tuples[j]?=some t:=by rw[List.getElem?_eq_getElem hj,e]
      rcases Nat.lt_trichotomy j k with h5 | h5 | h5
      · have:=k2 j t h5 hjx
        rw[pI.2 rfl] at this
        omega
      · subst h5
        rw[e];exact pI.2 rfl
      · exact absurd (hr.lt h5 hx hjx) (k3 k _ (Nat.le_refl _) hx)
  · have h1:¬ (k:Int)<(r.tuples.length:Int):=by omega
    simp only[h1,decide_false,Bool.false_eq_true,if_false,thn_nx,bnd_s]
    have:t ∉ r.tuples:=fun h=>by
      obtain⟨j,hj,e⟩:=List.getElem_of_mem h;have:=k2 j t (by omega) (by rw[List.getElem?_eq_getElem hj,e]);rw[pI.2 rfl] at this
      omega
    simp [this]
def iY (T:Nat):Nat→List (List Int)
  | 0=>[[]]
  | n+1=>(List.range T).flatMap fun(a:Nat)=>(iY T n).map (fun l=>(a:Int)::l)
theorem xEi:∀ T∈[1,2,3,4],∀ n∈[1,2,3,4],cP 10 (T:Nat) (n:Nat)=some ((iY T n).length:Int)∧cP 10 (T:Nat) (n:Nat)=some ((iY T n).length:Int)∧(iY T n).length≤256∧(List.range (iY T n).length).map (fun(k:Nat)=>bM 10 (T:Nat) (n:Nat) (k:Int))=(iY T n).map some:=by decide +kernel
theorem rR {T:Nat}:∀ {n:Nat} {l:List Int},l∈iY T n↔l.length=n∧∀ a∈l,0≤a∧a<T
  | 0,l=>by
    unfold iY
    constructor
    · intro h;simp at h;subst h;simp
    · intro h
      have:=List.length_eq_zero_iff.1 h.1
      simp [this]
  | n+1,l=>by
    unfold iY
    rw[List.mem_flatMap]
    constructor
    · rintro ⟨a,ha,h⟩
      obtain⟨m,hm,rfl⟩:=List.mem_map.1 h;obtain⟨h1,h2⟩:=rR.1 hm;rw[List.mem_range] at ha;refine⟨by simp [h1],fun b hb=>?_⟩
      rcases List.mem_cons.1 hb with rfl | hb
      · exact⟨by omega,by omega⟩
      · exact h2 b hb
    · rintro ⟨h1,h2⟩
      cases l with
      | nil=>simp at h1
      | cons a l=>
        obtain⟨h3,h4⟩:=h2 a (by simp);refine⟨a.toNat,List.mem_range.2 (by omega),List.mem_map.2 ⟨l,rR.2 ⟨by simpa using h1,fun b hb=>h2 b (by simp [hb])⟩,?_⟩⟩;rw[Int.toNat_of_nonneg h3]
theorem xIk (T:Nat):∀ n,Asc (iY T n)
  | 0=>List.pairwise_singleton _ _
  | n+1=>by
    unfold iY Asc
    rw[List.pairwise_flatMap];refine⟨fun a _=>?_,?_⟩
    · rw[List.pairwise_map]
      exact(xIk T n).imp (fun h=>rL.2 (.inr ⟨rfl,h⟩))
    · refine(List.pairwise_lt_range (n:=T)).imp (fun {a b} hab x hx y hy=>?_)
      obtain⟨m,_,rfl⟩:=List.mem_map.1 hx;obtain⟨m',_,rfl⟩:=List.mem_map.1 hy;exact rL.2 (.inl (by omega))
end Go.Proofs.YtfmnjkpddljdcaaGreatDoor
namespace Go.Proofs.YtfmnjkpddljdcaaGreatDoor
set_option linter.unusedVariables false
set_option linter.unusedSimpArgs false
def ctlF {σ ρ:Type} (s:σ):Option ρ→Ctl σ ρ
  | none=>.go s
  | some r=>.ret r
def outF {σ ρ:Type} (s:σ):Option ρ→Out σ ρ
  | none=>.nx s
  | some r=>.ret r
theorem xGh {σ ρ:Type} {b:Nat→σ→Option (Ctl σ ρ)} {s:σ} (q:Nat→Option ρ):∀ {m k:Nat},(∀ j,k≤j→j<k+m→b j s=some (ctlF s (q j)))→eJ b m k s=some (outF s ((List.range' k m).findSome? q))
  | 0,k,_=>rfl
  | m+1,k,h=>by
    have h1:=h k (Nat.le_refl _) (by omega);have ih:=xGh (b:=b) (s:=s) q (m:=m) (k:=k+1) (fun j h2 h3=>h j (by omega) (by omega));rw[List.range'_succ,List.findSome?_cons]
    cases hq:q k with
    | none=>rw[hq] at h1;rw[sY h1];exact ih
    | some r=>rw[hq] at h1;rw[xKz h1];rfl
theorem xIt {α:Type} {b:Nat→α→Unit→Option (Ctl Unit Bool)} (p:α→Bool) {l:List α} (h:∀ j x,l[j]?=some x→b j x ()=some (if p x then .go () else .ret false)) :
    kY (qW b l 0 ()) (fun _=>some true)=some (l.all p):=by
  rw[gZ (ρ:=Bool) (fun _ x=>if (fun y=>!p y) x then some false else none) (fun j x hj=>by
    rw[Nat.zero_add,h j x hj]
    cases hp:p x<;>simp [hp,wR]),uT]
  by_cases hp:l.all p=true
  · have:l.any (fun y=>!p y)=false:=by
      rw[List.any_eq_false];intro x hx
      simp [List.all_eq_true.1 hp x hx]
    rw[this,hp]
    rfl
  · have h2:l.all p=false:=by simpa using hp
    have:l.any (fun y=>!p y)=true:=by
      rw[← List.not_all_eq_any_not,h2]
      rfl
    rw[this,h2]
    rfl
def atV (vs args:List Int):List Int:=args.map fun i=>vs.getD i.toNat 0
theorem xLn {ρ:Type} (vs:List Int):∀ (args:List Int) (k:Nat) (s:List Int),(∀ i∈args,0≤i∧i<vs.length)→s.length+args.length≤1000000 →
    qW (σ:=(List Int)) (ρ:=ρ) (fun(k44:Nat) (x46:Int) (s38:(List Int))=>
   xY (ix vs x46) fun z54=>
   xY (ap s38 ([z54])) fun z61=>
   some (.go z61)) args k s=some (.nx (s++atV vs args))
  | [],_,s,_,_=>by simp [atV,qW]
  | i::args,k,s,h,hs=>by
    obtain⟨h0,h1⟩:=h i (by simp)
    have hx:vs[i.toNat]?=some (vs.getD i.toNat 0):=by
      rw[List.getD_eq_getElem?_getD,List.getElem?_eq_getElem (by omega)]
      rfl
    rw[List.length_cons] at hs
    rw[aJ (s':=s++[vs.getD i.toNat 0]) (by
      simp only[dX h0 hx,bnd_s,bS (l:=s) (m:=[vs.getD i.toNat 0]) (by simp only[List.length_cons,List.length_nil];omega)])]
    rw[xLn vs args (k+1) _ (fun j hj=>h j (by simp [hj])) (by rw[List.length_append,List.length_singleton];omega)]
    simp [atV]
theorem xRd {vs args:List Int} (h:∀ i∈args,0≤i∧i<vs.length) (hl:args.length≤1000):lK vs args=some (atV vs args):=by
  unfold lK
  rw[xLn vs args 0 [] h (by simp only[List.length_nil];omega),thn_nx,List.nil_append]
theorem xNy {vs args:List Int} (h:∀ i∈args,0≤i∧i<vs.length) (hl:args.length≤1000):lK vs args=some (atV vs args):=xRd h hl
def xRv (T:Nat) (r:Rel):Prop:=∃ n:Nat,r.arity=n∧1≤n∧n≤4∧Asc r.tuples∧∀ t∈r.tuples,t∈iY T n
theorem xPk {T:Nat} {r:Rel} {n:Nat} (h:Asc r.tuples) (hm:∀ t∈r.tuples,t∈iY T n):r.tuples=(iY T n).filter fun t=>decide (t∈r.tuples):=
  Asc.ext h ((xIk T n).filter _) (fun x=>⟨fun hx=>List.mem_filter.2 ⟨hm x hx,by simpa using hx⟩,fun hx=>by simpa using (List.mem_filter.1 hx).2⟩)
theorem xJo {T n:Nat} (hT:1≤T∧T≤4) (hn:1≤n∧n≤4):(iY T n).length≤256:=(xEi T (by simp;omega) n (by simp;omega)).2.2.1
theorem xRv.len {T:Nat} {r:Rel} (hT:1≤T∧T≤4) (h:xRv T r):r.tuples.length≤256:=by
  obtain⟨n,_,h1,h2,h3,h4⟩:=h;rw[xPk h3 h4];exact Nat.le_trans (List.length_filter_le _ _) (xJo hT ⟨h1,h2⟩)
structure TV (T:Nat) (u:Template):Prop where
  s:u.size=T
  t:1≤T∧T≤4
  r:∀ r∈u.rels,xRv T r
  n:u.rels.length≤6
def AV (u:Template) (n:Nat) (a:Atom):Prop:=(∀ i∈a.args,0≤i∧i<n)∧((a.rel= -1∧a.args.length=2)∨∃ r:Rel,0≤a.rel∧u.rels[a.rel.toNat]?=some r∧r∈u.rels∧(a.args.length:Int)=r.arity)
theorem AV.len {T:Nat} {u:Template} {n:Nat} {a:Atom} (hu:TV T u) (h:AV u n a):1≤a.args.length∧a.args.length≤4:=by
  rcases h.2 with ⟨_,h⟩ | ⟨r,_,_,h1,h2⟩
  · omega
  · obtain⟨m,e,h3,h4,_⟩:=hu.r r h1
    omega
def uI (u:Template) (a:Atom) (vs:List Int):Bool:=if a.rel= -1 then decide ((atV vs a.args).getD 0 0=(atV vs a.args).getD 1 0) else decide (atV vs a.args∈(u.rels.getD a.rel.toNat default).tuples)
theorem xOm {T N:Nat} {u:Template} {n:Nat} {a:Atom} {vs:List Int} (hu:TV T u) (h:AV u n a) (hv:∀ i∈a.args,i<vs.length) (hN:1002≤N):dB N u a vs=some (uI u a vs):=by
  have hl:=h.len hu;have h2:=xNy (vs:=vs) (fun i hi=>⟨(h.1 i hi).1,hv i hi⟩) (by omega)
  unfold dB uI
  rw[h2,bnd_s]
  rcases h.2 with ⟨e,hl2⟩ | ⟨r,h0,hr,hm,ha⟩
  · have hlen:(atV vs a.args).length=2:=by rw[atV,List.length_map,hl2]
    obtain⟨x,y,e2⟩:∃ x y,atV vs a.args=[x,y]:=by
      match h:atV vs a.args,hlen with
      | [x,y],_=>exact⟨x,y,rfl⟩
    rw[e2,e]
    have hb:(x==y)=decide (x=y):=by by_cases hxy:x=y<;>simp [hxy]
    simp [ix,hb]
  · have hne:(a.rel == -1)=false:=by rw[beq_eq_false_iff_ne];omega
    have hne':¬ a.rel= -1:=by omega
    obtain⟨m,_,_,_,hasc,_⟩:=hu.r r hm
    have hg:u.rels.getD a.rel.toNat default=r:=by rw[List.getD_eq_getElem?_getD,hr];rfl
    simp only[hne,Bool.false_eq_true,if_false,if_neg hne'];rw[dX h0 hr,bnd_s,xUl hasc (by have:=(hu.r r hm).len hu.t;omega) hN,bnd_s,hg]
def mx (l:List Int):Int:=l.foldl (fun s x=>if x<s then s else x) 0
theorem xPc {l:List Int}:∀ {s:Int},(s≤l.foldl (fun s x=>if x<s then s else x) s)∧∀ x∈l,x≤l.foldl (fun s x=>if x<s then s else x) s:=by
  induction l with
  | nil=>intro s;exact⟨Int.le_refl _,by simp⟩
  | cons y l ih=>
    intro s;rw[List.foldl_cons];obtain⟨h1,h2⟩:=ih (s:=if y<s then s else y)
    have hs:s≤(if y<s then s else y)∧y≤(if y<s then s else y):=by split<;>omega
    refine⟨Int.le_trans hs.1 h1,fun x hx=>?_⟩
    rcases List.mem_cons.1 hx with rfl | hx
    · exact Int.le_trans hs.2 h1
    · exact h2 x hx
theorem xUw {l:List Int}:∀ {s:Int},l.foldl (fun s x=>if x<s then s else x) s=s∨l.foldl (fun s x=>if x<s then s else x) s∈l:=by
  induction l with
  | nil=>intro s;exact .inl rfl
  | cons y l ih=>
    intro s;rw[List.foldl_cons]
    rcases ih (s:=if y<s then s else y) with h | h
    · rw[h]
      split
      · exact .inl rfl
      · exact .inr (by simp)
    · exact .inr (by simp [h])
theorem xTm {l:List Int} {n:Int} (h:∀ i∈l,0≤i∧i<n) (hn:0<n):0≤mx l∧mx l<n:=by
  refine⟨xPc.1,?_⟩
  rcases xUw (l:=l) (s:=0) with e | e
  · unfold mx;rw[e];exact hn
  · exact(h _ e).2
theorem xIj {ρ:Type} (x0:Int) (L:List Int):∀ (l:List Int) (k:Nat) (s:Int),L.drop k=l→eJ (σ:=Int) (ρ:=ρ) (fun(k41:Nat) (s37:Int)=>
   xY (ix (x0::L) (1+(k41:Int))) fun z48=>
   some (.go (if s37<z48 then z48 else s37))) l.length k s=some (.nx (l.foldl (fun s x=>if x<s then s else x) s))
  | [],_,_,_=>rfl
  | x::l,k,s,h=>by
    have hx:(x0::L)[1+k]?=some x:=by
      rw[Nat.add_comm,List.getElem?_cons_succ,← List.head?_drop,h]
      rfl
    have e:(1:Int)+(k:Int)=((1+k:Nat):Int):=by omega
    rw[List.length_cons,sY (s':=if x<s then s else x) (by
      rw[e,zI hx,bnd_s]
      by_cases h1:x<s
      · rw[if_neg (by omega),if_pos h1]
      · rw[if_neg h1]
        by_cases h2:s<x
        · rw[if_pos h2]
        · rw[if_neg h2,show s=x by omega]),xIj x0 L l (k+1) _ (by rw[← List.drop_drop,h];rfl)]
    rfl
theorem xVh {l:List Int} (h:∀ i∈l,0≤i) (hl:1≤l.length):aZ l=some (mx l):=by
  cases l with
  | nil=>simp at hl
  | cons x l=>
    unfold aZ
    have h1:¬ (((x::l).length:Nat):Int)<1:=by simp;omega
    have h2:((((x::l).length:Nat):Int) - 1).toNat=l.length:=by simp
    rw[if_neg (by simpa using h1),thn_nx,show ix (x::l) 0=some x from rfl,bnd_s,h2,xIj x l l 0 x rfl,thn_nx]
    unfold mx
    rw[List.foldl_cons];have:=h x (by simp)
    by_cases h3:x<0
    · omega
    · rw[if_neg h3]
end Go.Proofs.YtfmnjkpddljdcaaGreatDoor
namespace Go.Proofs.YtfmnjkpddljdcaaGreatDoor
set_option linter.unusedVariables false
set_option linter.unusedSimpArgs false
structure FV (u:Template) (f:Formula):Prop where
  f0:1≤f.free∧f.free≤4
  v0:f.free≤f.vars∧f.vars≤8
  n:f.atoms.length≤16
  a:∀ a∈f.atoms,AV u f.vars.toNat a
structure FX (u:Template) (f:Formula):Prop where
  f0:1≤f.free∧f.free≤10
  v0:f.free≤f.vars∧f.vars≤10
  n:f.atoms.length≤24
  a:∀ a∈f.atoms,AV u f.vars.toNat a
theorem FV.x {u:Template} {f:Formula} (h:FV u f):FX u f:=⟨by have:=h.f0;omega,by have:=h.v0;omega,by have:=h.n;omega,h.a⟩
def jS (u:Template) (f:Formula) (vs:List Int):Bool:=f.atoms.all fun a=>!decide (mx a.args=(vs.length:Int) - 1) || uI u a vs
theorem AV.below {u:Template} {n:Nat} {a:Atom} {vs:List Int} (h:AV u n a) (hm:mx a.args=(vs.length:Int) - 1):∀ i∈a.args,i<vs.length:=fun i hi=>by
  have:=(xPc (l:=a.args) (s:=0)).2 i hi
  unfold mx at hm
  omega
def xDv (V:Nat) (atoms:List Atom):List (List Atom):=(List.range V).map fun(j:Nat)=>atoms.filter fun a=>decide (mx a.args=(j:Int))
theorem xIi {ρ:Type} {u:Template} {V:Nat} {T:Nat} (hu:TV T u) (hV:1≤V):∀ (l p:List Atom) (k:Nat),(∀ a∈l,AV u V a)→p.length+l.length≤100 →
    qW (σ:=List (List Atom)) (ρ:=ρ) (fun(k:Nat) (a:Atom) (s:List (List Atom))=>
   xY (aZ a.args) fun m=>
   xY (ix s m) fun y=>
   xY (ap y [a]) fun u=>
   some (.go (s.set m.toNat u))) l k (xDv V p)=some (.nx (xDv V (p++l)))
  | [],p,_,_,_=>by simp [qW]
  | a::l,p,k,h,hl=>by
    have ha:=h a (by simp);have hal:=ha.len hu;have hm:=xTm ha.1 (by omega);rw[List.length_cons] at hl
    have hlt:(mx a.args).toNat<V:=by omega
    have hy:(xDv V p)[(mx a.args).toNat]?=some (p.filter fun b=>decide (mx b.args=mx a.args)):=by
      unfold xDv
      rw[List.getElem?_map,List.getElem?_range hlt,Option.map_some,Int.toNat_of_nonneg hm.1]
    have hyl:(p.filter fun b=>decide (mx b.args=mx a.args)).length≤p.length:=List.length_filter_le _ _
    rw[aJ (s':=xDv V (p++[a])) (by
      rw[xVh (fun i hi=>(ha.1 i hi).1) hal.1,bnd_s,dX hm.1 hy,bnd_s,bS (by simp only[List.length_cons,List.length_nil];omega),bnd_s]
      congr 2
      apply List.ext_getElem?
      intro j
      unfold xDv
      by_cases hj:j<V
      · rw[List.getElem?_set]
        by_cases e:(mx a.args).toNat=j
        · rw[if_pos e,if_pos (by simpa using hlt),List.getElem?_map,List.getElem?_range hj,Option.map_some]
          have e2:mx a.args=(j:Int):=by omega
          rw[List.filter_append,List.filter_cons,if_pos (by simpa using e2),e2]
          rfl
        · rw[if_neg e,List.getElem?_map,List.getElem?_map,List.getElem?_range hj,Option.map_some,Option.map_some]
          have e2:¬ mx a.args=(j:Int):=by omega
          rw[List.filter_append,List.filter_cons,if_neg (by simpa using e2),List.filter_nil,List.append_nil]
      · rw[List.getElem?_eq_none (by simp;omega),List.getElem?_eq_none (by simp;omega)])]
    rw[xIi hu hV l (p++[a]) (k+1) (fun b hb=>h b (by simp [hb])) (by rw[List.length_append,List.length_singleton];omega)]
    simp
def xGt (u:Template) (f:Formula):solver:=⟨u,f.vars,xDv f.vars.toNat f.atoms⟩
theorem xJm {T:Nat} {u:Template} {f:Formula} (hu:TV T u) (hf:FX u f):iA u f.vars f.atoms=some (xGt u f):=by
  have h1:=hf.f0;have h2:=hf.v0
  unfold iA
  have hz:mkz ([]:List Atom) f.vars=some (xDv f.vars.toNat []):=by
    unfold mkz
    rw[if_pos ⟨by omega,by omega⟩]
    congr 1
    unfold xDv
    apply List.ext_getElem?
    intro j
    by_cases hj:j<f.vars.toNat
    · rw[List.getElem?_map,List.getElem?_range hj,List.getElem?_replicate,if_pos hj]
      rfl
    · rw[List.getElem?_eq_none (by simp;omega),List.getElem?_eq_none (by simp;omega)]
  rw[hz,bnd_s,xIi hu (by omega) f.atoms [] 0 hf.a (by have:=hf.n;simp only[List.length_nil];omega),thn_nx]
  rfl
theorem xGp (l:List Atom) (p:Atom→Bool) (f:Atom→Option Bool) (hf:∀ x∈l,f x=some (p x)):aH l f=some (l.any p):=by
  obtain⟨i,h1,h2⟩:=rS l p f hf
  unfold aH cF
  rw[h1,bnd_s,h2]
theorem xRq {T N:Nat} {u:Template} {f:Formula} {vs:List Int} (hu:TV T u) (hf:FX u f) (hN:1002≤N) (hl:1≤vs.length∧(vs.length:Int)≤f.vars):dK N (xGt u f) vs=some (jS u f vs):=by
  have h2:=hf.v0
  have e:(vs.length:Int) - 1=((vs.length - 1:Nat):Int):=by omega
  have hd:(xGt u f).due[vs.length - 1]?=some (f.atoms.filter fun a=>decide (mx a.args=((vs.length - 1:Nat):Int))):=by
    show(xDv f.vars.toNat f.atoms)[vs.length - 1]?=_
    unfold xDv
    rw[List.getElem?_map,List.getElem?_range (by omega)]
    rfl
  unfold dK
  rw[kI (by omega) (by omega),bnd_s,e,zI hd,bnd_s]
  rw[xGp _ (fun a=>!uI u a vs) _ (fun a ha=>by
    obtain⟨h3,h4⟩:=List.mem_filter.1 ha
    have h5:mx a.args=((vs.length - 1:Nat):Int):=by simpa using h4
    have hm:=hf.a a h3
    unfold gO
    have:=xOm hu hm (vs:=vs) (hm.below (h5.trans e.symm)) hN
    change xY (dB N u a vs) _=_
    rw[this,bnd_s]),bnd_s]
  unfold jS
  rw[e]
  congr 1
  induction f.atoms with
  | nil=>rfl
  | cons a l ih=>
    by_cases h:mx a.args=((vs.length - 1:Nat):Int)
    · rw[List.filter_cons,if_pos (by simpa using h),List.any_cons,List.all_cons,← ih,decide_eq_true h]
      cases uI u a vs<;>simp
    · rw[List.filter_cons,if_neg (by simpa using h),List.all_cons,← ih,decide_eq_false h]
      simp
def mT (u:Template) (f:Formula):Nat→List Int→Option (List Int)
  | 0,vs=>some vs
  | d+1,vs=>(List.range' 0 u.size.toNat).findSome? fun(a:Nat)=>if jS u f (vs++[(a:Int)]) then mT u f d (vs++[(a:Int)]) else none
theorem walk_eq {T:Nat} {u:Template} {f:Formula} (hu:TV T u) (hf:FX u f):∀ (d N:Nat) (vs st:List Int),(vs.length:Int)+d=f.vars→d+1003≤N→fS (fun a _=>some (false,a)) N (xGt u f) vs st=some (!(mT u f d vs).isSome,(mT u f d vs).getD st)
  | 0,N,vs,st,hd,hN=>by
    obtain⟨M,rfl⟩:∃ M,N=M+1:=⟨N - 1,by omega⟩;have h2:=hf.v0;rw[fS,if_pos (by show((vs.length:Int)==f.vars)=true;simp;omega)]
    unfold zE
    rw[bS (by simp only[List.length_nil];omega),bnd_s,bnd_s,List.nil_append]
    rfl
  | d+1,N,vs,st,hd,hN=>by
    obtain⟨M,rfl⟩:∃ M,N=M+1:=⟨N - 1,by omega⟩;have h2:=hf.v0;have ih:=walk_eq hu hf d M;rw[fS,if_neg (by show ¬ ((vs.length:Int)==f.vars)=true;simp;omega)]
    have hq:=xGh (σ:=List Int) (ρ:=Bool×List Int) (s:=st) (k:=0) (m:=u.size.toNat) (b:=fun(k60:Nat) (s:List Int)=>
      xY (bX vs) fun z66=>
      xY (ap z66 ([(k60:Int)])) fun z73=>
      xY (dK M (xGt u f) z73) fun z86=>
      if z86 then xY (fS (fun a _=>some (false,a)) M (xGt u f) z73 s) fun z89=>
        if z89.1 then some (.go z89.2) else some (.ret (false,z89.2))
      else some (.go s)) (fun(a:Nat)=>(if jS u f (vs++[(a:Int)]) then mT u f d (vs++[(a:Int)]) else none).map fun o=>(false,o)) (fun a _ _=>by
      unfold bX
      rw[bnd_s,bS (by simp only[List.length_cons,List.length_nil];omega),bnd_s]
      have hl:(vs++[(a:Int)]).length=vs.length+1:=by simp
      rw[xRq hu hf (by omega) (by rw[hl];omega),bnd_s]
      by_cases hs:jS u f (vs++[(a:Int)])=true
      · rw[hs,if_pos rfl,if_pos rfl,ih _ _ (by rw[hl];push_cast;omega) (by omega),bnd_s]
        cases mT u f d (vs++[(a:Int)])<;>rfl
      · have hs':jS u f (vs++[(a:Int)])=false:=by simpa using hs
        rw[hs',if_neg (by simp),if_neg (by simp)]
        rfl)
    show kY (eJ _ u.size.toNat 0 st) _=_
    rw[hq]
    have hmap:∀ (l:List Nat),l.findSome? (fun(a:Nat)=>(if jS u f (vs++[(a:Int)]) then mT u f d (vs++[(a:Int)]) else none).map fun o=>(false,o))=(l.findSome? (fun(a:Nat)=>if jS u f (vs++[(a:Int)]) then mT u f d (vs++[(a:Int)]) else none)).map fun o=>(false,o):=fun l=>by
      induction l with
      | nil=>rfl
      | cons a l ih2=>
        rw[List.findSome?_cons,List.findSome?_cons,ih2]
        cases (if jS u f (vs++[(a:Int)]) then mT u f d (vs++[(a:Int)]) else none)<;>rfl
    rw[hmap];rw[show mT u f (d+1) vs=(List.range' 0 u.size.toNat).findSome? (fun(a:Nat)=>if jS u f (vs++[(a:Int)]) then mT u f d (vs++[(a:Int)]) else none) from rfl]
    cases (List.range' 0 u.size.toNat).findSome? (fun(a:Nat)=>if jS u f (vs++[(a:Int)]) then mT u f d (vs++[(a:Int)]) else none)<;>rfl
theorem xNn {T N:Nat} {u:Template} {f:Formula} (hu:TV T u) (hf:FX u f) (hN:1100≤N):fQ N (xGt u f) []=some ((mT u f f.vars.toNat []).getD [],(mT u f f.vars.toNat []).isSome):=by
  have h1:=hf.f0;have h2:=hf.v0
  unfold fQ
  rw[forL_nil',thn_nx,walk_eq hu hf f.vars.toNat N [] [] (by simp only[List.length_nil];omega) (by omega),bnd_s]
  simp
end Go.Proofs.YtfmnjkpddljdcaaGreatDoor
namespace Go.Proofs.YtfmnjkpddljdcaaGreatDoor
set_option linter.unusedVariables false
set_option linter.unusedSimpArgs false
theorem xDe {σ ρ:Type} {b:σ→Option (Ctl σ ρ)} {r:Out σ ρ}:∀ {m M:Nat} {s:σ},lD b m s=some r→m≤M→lD b M s=some r
  | 0,_,_,h,_=>by cases h
  | m+1,M,s,h,hM=>by
    obtain⟨K,rfl⟩:∃ K,M=K+1:=⟨M - 1,by omega⟩
    unfold lD at h ⊢
    cases hb:b s with
    | none=>rw[hb] at h;cases h
    | some c=>
      rw[hb] at h
      cases c with
      | go s'=>exact xDe h (by omega)
      | brk s'=>exact h
      | ret v=>exact h
theorem xOd {σ ρ:Type} {o:Out σ ρ} {k:σ→Option ρ} {r:ρ} (h:xSw k r o):kY (some o) k=some r:=by
  cases o with
  | nx s=>exact h
  | ret v=>exact congrArg some h
theorem xJj {m M:Nat} {a b c:Int} {d:List Int} (h:bM m a b c=some d) (hM:m≤M):bM M a b c=some d:=by
  unfold bM at h ⊢
  obtain⟨z,h1,h⟩:=xB h;obtain⟨y,h2,h⟩:=xB h;obtain⟨o,ho,hk⟩:=xV h;rw[h1,bnd_s,h2,bnd_s,xDe ho hM];exact xOd hk
theorem xKv {m M:Nat} {a b c:Int} (h:cP m a b=some c) (hM:m≤M):cP M a b=some c:=by
  unfold cP at h ⊢
  obtain⟨o,ho,hk⟩:=xV h;rw[xDe ho hM];exact xOd hk
theorem xTv {T n k N:Nat} (hT:1≤T∧T≤4) (hn:1≤n∧n≤4) (hN:10≤N) (hk:k<(iY T n).length):bM N (T:Int) (n:Int) (k:Int)=some (iY T n)[k]:=by
  have h:=(xEi T (by simp;omega) n (by simp;omega)).2.2.2
  have h1:((List.range (iY T n).length).map (fun(k:Nat)=>bM 10 (T:Nat) (n:Nat) (k:Int)))[k]?=some (some (iY T n)[k]):=by
    rw[h,List.getElem?_map,List.getElem?_eq_getElem hk]
    rfl
  rw[List.getElem?_map,List.getElem?_range hk] at h1;exact xJj (Option.some.inj h1) hN
theorem xVe {T n N:Nat} (hT:1≤T∧T≤4) (hn:1≤n∧n≤4) (hN:10≤N):cP 10 (T:Int) (n:Int)=some ((iY T n).length:Int)∧cP N (T:Int) (n:Int)=some ((iY T n).length:Int):=by
  have h:=xEi T (by simp;omega) n (by simp;omega);exact⟨h.1,xKv h.2.1 hN⟩
def apart (V R:List (List Int)) (d:List Int):Bool:=decide (d∈V) != decide (d∈R)
end Go.Proofs.YtfmnjkpddljdcaaGreatDoor
namespace Go.Proofs.YtfmnjkpddljdcaaGreatDoor
set_option linter.unusedVariables false
set_option linter.unusedSimpArgs false
theorem xUd {s:Int} {x:Rel} (hN:x.tuples.length≤1048576) (h:pW s x=true):okS s=true∧xRv s.toNat x:=by
  obtain⟨b,_,h2,h3⟩:=xPo s x hN
  have hb:b=true:=by unfold pW at h;rw[h2] at h;exact h
  obtain⟨h4,h5,h6,h7⟩:=h3 hb;have hs:=xHk h4;have ha:=xHk h5;refine⟨h4,x.arity.toNat,by omega,by omega,by omega,xOx h7,fun t ht=>rR.2 ?_⟩;have h8:=h6 t ht
  unfold wU at h8
  rw[Bool.and_eq_true] at h8
  refine ⟨by have : (t.length : Int) = x.arity := by simpa using h8.1
             omega,fun a ha=>?_⟩
  have h9:=List.all_eq_true.1 h8.2 a ha
  unfold okV at h9
  simp at h9
  omega
theorem xHv {u:Template} (hu:xAv u) (h:tR u=true):TV u.size.toNat u:=by
  unfold tR at h
  rw[Bool.and_eq_true,Bool.and_eq_true] at h;obtain⟨h1,h2,h3⟩:=h;have hs:=xHk h1;exact⟨by omega,by omega,fun r hr=>(xUd (hu r hr) (List.all_eq_true.1 h3 r hr)).2,by have:=of_decide_eq_true h2;omega⟩
theorem xMx {s:Int} (h:1≤s∧s≤1000) (a:Int):fP s a=some (okV s a):=by
  unfold fP
  rw[kI (by omega) (by omega),bnd_s,gE]
  rfl
theorem xHx {s:Int} (h:1≤s∧s≤1000) (ar:Int) (t:List Int):aK s t ar=some (wU s t ar):=by
  unfold aK wU
  by_cases hl:((t.length:Int)==ar)=true
  · rw[hl,if_pos rfl,yT t (fun x=>!okV s x) _ (fun x=>by unfold dH;rw[xMx h,bnd_s])]
    rw[bnd_s,thn_nx,Bool.true_and,← List.not_all_eq_any_not,Bool.not_not]
  · have hl':((t.length:Int)==ar)=false:=by simpa using hl
    rw[hl',if_neg (by simp),thn_nx,Bool.false_and]
theorem xQv {s:Int} (h:1≤s∧s≤1000) (t:List Int):jE t s=some (t.all (okV s)):=by
  unfold jE
  exact xIt (okV s) (fun j x hx=>by
    simp only[kI (x:=s - 1) (by omega) (by omega),bnd_s,mJ]
    unfold okV
    cases (decide (0≤x) && decide (x≤s - 1))<;>rfl)
def nL (V:Int) (m:Nat):List Int:=(List.range m).map fun(i:Nat)=>V+i
theorem yO (V:Int) (m:Nat):(nL V m).length=m:=by simp [nL]
theorem xFy (V:Int) (m:Nat):nL V (m+1)=V::nL (V+1) m:=by
  unfold nL
  rw[List.range_succ_eq_map,List.map_cons,List.map_map];simp only[Int.natCast_zero,Int.add_zero,List.cons.injEq,true_and]
  apply List.map_congr_left
  intro i _;simp only[Function.comp]
  push_cast
  omega
theorem xFv {ρ:Type} (V:Int) (h0:0≤V):∀ (m k:Nat) (s:List Int),V+k+m≤1000000→s.length+m≤1000000 →
    eJ (σ:=(List Int)) (ρ:=ρ) (fun(k36:Nat) (s30:(List Int))=>
   xY (ck (V+(k36:Int))) fun z42=>
   xY (ap s30 ([z42])) fun z46=>
   some (.go z46)) m k s=some (.nx (s++nL (V+k) m))
  | 0,k,s,_,_=>by simp [eJ,nL]
  | m+1,k,s,h1,h2=>by
    have e:V+((k+1:Nat):Int)=V+k+1:=by omega
    rw[sY (s':=s++[V+k]) (by rw[kI (by omega) (by omega),bnd_s,bS (by simp only[List.length_cons,List.length_nil];omega),bnd_s]),xFv V h0 m (k+1) _ (by omega) (by rw[List.length_append,List.length_singleton];omega),xFy,e]
    simp
theorem xSu {V:Int} {m:Nat} (h0:0≤V) (h1:V+m≤1000000):rY V (m:Int)=some (nL V m):=by
  unfold rY
  have:=xFv (ρ:=List Int) V h0 m 0 [] (by omega) (by simp only[List.length_nil];omega);rw[Int.toNat_natCast,this,thn_nx,List.nil_append]
  simp
theorem xOy {m:Nat} (h1:m≤1000000):jX (m:Int)=some (nL 0 m):=by
  unfold jX
  have key:∀ (m k:Nat) (s:List Int),k+m≤1000000→s.length+m≤1000000→eJ (σ:=(List Int)) (ρ:=(List Int)) (fun(k34:Nat) (s28:(List Int))=>
   xY (ap s28 ([(k34:Int)])) fun z42=>
   some (.go z42)) m k s=some (.nx (s++nL (k:Int) m)):=by
    intro m
    induction m with
    | zero=>intro k s _ _;simp [eJ,nL]
    | succ m ih=>
      intro k s h2 h3
      have e:((k+1:Nat):Int)=(k:Int)+1:=by omega
      rw[sY (s':=s++[(k:Int)]) (by rw[bS (by simp only[List.length_cons,List.length_nil];omega),bnd_s]),ih (k+1) _ (by omega) (by rw[List.length_append,List.length_singleton];omega),xFy,e]
      simp
  rw[Int.toNat_natCast,key m 0 [] (by omega) (by simp only[List.length_nil];omega),thn_nx,List.nil_append]
  rfl
def CV (t:Template) (n:Int) (c:Con):Prop:=(∀ i∈c.scope,0≤i∧i<n)∧∃ r:Rel,0≤c.rel∧t.rels[c.rel.toNat]?=some r∧r∈t.rels∧(c.scope.length:Int)=r.arity
def xNi (t:Template) (vars:Int) (c:Con):Bool:=(decide (0≤c.rel) && decide (c.rel≤(t.rels.length:Int) - 1)) && (((c.scope.length:Int)==(t.rels.getD c.rel.toNat default).arity) && c.scope.all (okV vars))
def wL (t:Template) (x:Instance):Bool:=tR t && ((decide (1≤x.vars) && decide (x.vars≤10)) && (decide ((x.cons.length:Int)≤24) && x.cons.all (xNi t x.vars)))
theorem xPn {t:Template} {c:Con} (h:(decide (0≤c.rel) && decide (c.rel≤(t.rels.length:Int) - 1))=true):ix t.rels c.rel=some (t.rels.getD c.rel.toNat default):=by
  simp at h
  exact dX h.1 (by rw[List.getD_eq_getElem?_getD,List.getElem?_eq_getElem (by omega)];rfl)
theorem xGr (l:List Con) (p:Con→Bool) (f:Con→Option Bool) (hf:∀ x∈l,f x=some (p x)):aQ l f=some (l.any p):=by
  obtain⟨i,h1,h2⟩:=rS l p f hf
  unfold aQ cY
  rw[h1,bnd_s,h2]
theorem xHz {t:Template} {x:Instance} (ht:xAv t):gQ t x=some (wL t x)∧aS t x=some (wL t x):=by
  have e0:dG (Template.mk t.size t.rels)=some (tR t):=xAm t ht
  unfold gQ aS wL
  rw[xDc t ht,e0,bnd_s,bnd_s]
  by_cases h1:tR t=true
  · have hn:=(xHv ht h1).n
    simp only[h1,Bool.not_true,Bool.false_eq_true,if_false,if_true,Bool.true_and,mJ,bnd_s]
    unfold rH
    simp only[gE,bnd_s]
    by_cases h2:(decide (1≤x.vars) && decide (x.vars≤10))=true
    · have hv:1≤x.vars∧x.vars≤10:=by simpa using h2
      simp only[h2,Bool.not_true,Bool.false_eq_true,if_false,if_true,Bool.true_and,thn_nx]
      by_cases h3:(x.cons.length:Int)≤24
      · have h3':¬ (24:Int)<(x.cons.length:Int):=by omega
        simp only[h3,h3',decide_true,decide_false,Bool.false_eq_true,if_false,if_true,Bool.true_and]
        constructor
        · exact xIt (xNi t x.vars) (fun j c _=>by
            simp only[kI (x:=(t.rels.length:Int) - 1) (by omega) (by omega),bnd_s]
            unfold xNi
            by_cases h4:(decide (0≤c.rel) && decide (c.rel≤(t.rels.length:Int) - 1))=true
            · rw[h4]
              simp only[Bool.not_true,Bool.false_eq_true,if_false,Bool.true_and,xPn h4,bnd_s]
              by_cases h5:((c.scope.length:Int)==(t.rels.getD c.rel.toNat default).arity)=true
              · have h6:((c.scope.length:Int) != (t.rels.getD c.rel.toNat default).arity)=false:=by simpa using h5
                rw[h6,h5,if_neg (by simp),xQv (by omega),bnd_s,thn_nx]
                cases c.scope.all (okV x.vars)<;>rfl
              · have h5':((c.scope.length:Int)==(t.rels.getD c.rel.toNat default).arity)=false:=by simpa using h5
                have h6:((c.scope.length:Int) != (t.rels.getD c.rel.toNat default).arity)=true:=by simpa using h5
                rw[h6,h5',if_pos rfl,thn_nx]
                rfl
            · have h4':(decide (0≤c.rel) && decide (c.rel≤(t.rels.length:Int) - 1))=false:=by simpa using h4
              rw[h4']
              rfl)
        · rw[xGr x.cons (fun c=>!xNi t x.vars c) _ (fun c _=>by
            unfold fW
            simp only[kI (x:=(t.rels.length:Int) - 1) (by omega) (by omega),bnd_s,gE]
            unfold xNi
            by_cases h4:(decide (0≤c.rel) && decide (c.rel≤(t.rels.length:Int) - 1))=true
            · rw[h4]
              simp only[Bool.not_true,Bool.false_eq_true,if_false,Bool.true_and,xPn h4,bnd_s,xHx (s:=x.vars) (by omega),thn_nx]
              rfl
            · have h4':(decide (0≤c.rel) && decide (c.rel≤(t.rels.length:Int) - 1))=false:=by simpa using h4
              rw[h4']
              rfl),bnd_s,thn_nx,← List.not_all_eq_any_not,Bool.not_not]
      · have h3':(24:Int)<(x.cons.length:Int):=by omega
        simp [h3,h3']
    · have h2':(decide (1≤x.vars) && decide (x.vars≤10))=false:=by simpa using h2
      rw[h2'];exact⟨rfl,rfl⟩
  · have h1':tR t=false:=by simpa using h1
    rw[h1'];exact⟨rfl,rfl⟩
theorem xCk {t:Template} {x:Instance} (h:wL t x=true):(1≤x.vars∧x.vars≤10)∧x.cons.length≤24∧∀ c∈x.cons,CV t x.vars c:=by
  unfold wL at h
  simp only[Bool.and_eq_true,decide_eq_true_eq] at h;obtain⟨_,h2,h3,h4⟩:=h;refine⟨h2,by omega,fun c hc=>?_⟩;have h5:=List.all_eq_true.1 h4 c hc
  unfold xNi at h5
  simp only[Bool.and_eq_true,decide_eq_true_eq] at h5;obtain⟨h6',h7,h8⟩:=h5
  have h9:(c.scope.length:Int)=(t.rels.getD c.rel.toNat default).arity:=by simpa using h7
  refine⟨fun i hi=>?_,_,h6'.1,?_,?_,h9⟩
  · have:=List.all_eq_true.1 h8 i hi
    unfold okV at this
    simp at this
    omega
  · rw[List.getD_eq_getElem?_getD,List.getElem?_eq_getElem (by omega)];rfl
  · rw[List.getD_eq_getElem?_getD,List.getElem?_eq_getElem (show c.rel.toNat<t.rels.length by omega)]
    exact List.getElem_mem _
def CW (u:Template) (n:Int) (c:Con):Prop:=CV u n c∧c.scope.length≤4
def xId (u:Template) (vs:List Int) (c:Con):Bool:=decide (atV vs c.scope∈(u.rels.getD c.rel.toNat default).tuples)
def fY (K:Int) (y:Instance):Formula:=⟨K,y.vars,y.cons.map fun c=>⟨c.rel,c.scope⟩⟩
theorem xWc {u:Template} {y:Instance} {K:Int} (h:∀ c∈y.cons,CW u y.vars c) (hK:1≤K∧K≤y.vars) (hv:y.vars≤10) (hn:y.cons.length≤24):FX u (fY K y):=by
  refine⟨⟨hK.1,by show K≤10;omega⟩,⟨hK.2,hv⟩,by show(y.cons.map _).length≤24;rw[List.length_map];exact hn,fun a ha=>?_⟩;obtain⟨c,hc,rfl⟩:=List.mem_map.1 ha;obtain⟨⟨h1,h2⟩,_⟩:=h c hc;refine⟨fun i hi=>?_,.inr h2⟩;have:=h1 i hi;have e:(fY K y).vars=y.vars:=rfl;rw[e]
  omega
theorem xLw {u:Template} {n:Int} {c:Con} {vs:List Int} (h:CW u n c):uI u ⟨c.rel,c.scope⟩ vs=xId u vs c:=by
  obtain⟨⟨_,r,h0,_⟩,_⟩:=h
  unfold uI xId
  rw[if_neg (show ¬ (⟨c.rel,c.scope⟩:Atom).rel= -1 by show ¬ c.rel= -1;omega)]
theorem xEo {ρ:Type}:∀ (l:List Con) (k:Nat) (s:List Atom),s.length+l.length≤1000→qW (σ:=(List Atom)) (ρ:=ρ) (fun(k68:Nat) (x70:Con) (s62:(List Atom))=>
   xY (ap s62 ([(Atom.mk x70.rel x70.scope)])) fun z84=>
   some (.go z84)) l k s=some (.nx (s++l.map fun c=>⟨c.rel,c.scope⟩))
  | [],k,s,_=>by simp [qW]
  | c::l,k,s,h=>by
    rw[List.length_cons] at h;rw[aJ (s':=s++[⟨c.rel,c.scope⟩]) (by rw[bS (by simp only[List.length_cons,List.length_nil];omega),bnd_s]),xEo l (k+1) _ (by rw[List.length_append,List.length_singleton];omega),List.map_cons,List.append_assoc]
    rfl
theorem xGq {T:Nat} {u:Template} {y:Instance} {K:Int} (hu:TV T u) (hf:FX u (fY K y)):jD u y=some (xGt u (fY K y)):=by
  unfold jD
  have hn:=hf.n
  have hl:(fY K y).atoms.length=y.cons.length:=by unfold fY;rw[List.length_map]
  rw[xEo y.cons 0 [] (by simp only[List.length_nil];omega),thn_nx,List.nil_append];have h1:iA (Template.mk u.size u.rels) y.vars (y.cons.map fun c=>⟨c.rel,c.scope⟩)=some (xGt u (fY K y)):=xJm hu hf;rw[h1,bnd_s]
end Go.Proofs.YtfmnjkpddljdcaaGreatDoor
