import Derived.Test.YtghihmkhdhjhiaaGreatDoorP2
import Derived.Test.YtghihmkhdhjhiaaGreatDoorPC
import Derived.Test.YtghihmkhdhjhiaaGreatDoorQ1
import Derived.Test.YtghihmkhdhjhiaaGreatDoorQ2
import Derived.Test.YtghihmkhdhjhiaaGreatDoorM1
namespace Go.Proofs.YtghihmkhdhjhiaaGreatDoor
end Go.Proofs.YtghihmkhdhjhiaaGreatDoor
namespace Go.Proofs.YtghihmkhdhjhiaaGreatDoor
end Go.Proofs.YtghihmkhdhjhiaaGreatDoor
namespace Go.Proofs.YtghihmkhdhjhiaaGreatDoor
end Go.Proofs.YtghihmkhdhjhiaaGreatDoor
namespace Go.Proofs.YtghihmkhdhjhiaaGreatDoor
end Go.Proofs.YtghihmkhdhjhiaaGreatDoor
namespace Go.Proofs.YtghihmkhdhjhiaaGreatDoor
end Go.Proofs.YtghihmkhdhjhiaaGreatDoor
namespace Go.Proofs.YtghihmkhdhjhiaaGreatDoor
end Go.Proofs.YtghihmkhdhjhiaaGreatDoor
namespace Go.Proofs.YtghihmkhdhjhiaaGreatDoor
end Go.Proofs.YtghihmkhdhjhiaaGreatDoor
namespace Go.Proofs.YtghihmkhdhjhiaaGreatDoor
set_option linter.unusedVariables false
set_option linter.unusedSimpArgs false
theorem cN (a lo hi:Int):kD a lo hi=some (decide (lo≤a) && decide (a≤hi)):=by
  unfold kD
  by_cases h:lo≤a
  · simp [h]
  · simp [h]
theorem jJ (a lo hi:Int):dB a lo hi=some (decide (lo≤a) && decide (a≤hi)):=cN a lo hi
def okS (s:Int):Bool:=decide (1≤s) && decide (s≤4)
def okV (s a:Int):Bool:=decide (0≤a) && decide (a≤s - 1)
def pS (s:Int) (t:List Int) (ar:Int):Bool:=((t.length:Int)==ar) && t.all (okV s)
theorem xCd {s:Int} (h:okS s=true):1≤s∧s≤4:=by simpa [okS] using h
theorem xAf (s:Int):gE s=some (okS s):=by unfold gE;rw[cN];rfl
theorem xFc (s:Int):gW s=some (okS s):=by unfold gW;rw[cN];rfl
theorem yB (s:Int):fA s=some (okS s):=by unfold fA;rw[jJ];rfl
theorem xDm (s:Int):fM s=some (okS s):=by unfold fM;rw[jJ];rfl
theorem ckS {s:Int} (h:okS s=true):ck (s - 1)=some (s - 1):=by have:=xCd h;exact zT (by omega) (by omega)
theorem xEk {s:Int} (h:okS s=true) (a:Int):cZ s a=some (okV s a):=by
  unfold cZ
  rw[ckS h,bnd_s,cN]
  rfl
theorem xCu {s:Int} (h:okS s=true) (ar:Int) (t:List Int):eG s ar t=some (pS s t ar):=by
  unfold eG
  rw[dI (fun _ x=>if !okV s x then some false else none) (fun j x hj=>by
    simp only[ckS h,bnd_s,jJ]
    show(if (!okV s x)=true then _ else _)=_
    by_cases hv:okV s x=true
    · simp [hv,pE]
    · simp [hv,pE])]
  rw[mF]
  unfold pS
  by_cases ha:t.all (okV s)=true
  · have:t.any (fun x=>!okV s x)=false:=by simpa using ha
    rw[this,ha]
    simp [uJ]
  · have ha':t.all (okV s)=false:=by simpa using ha
    have:t.any (fun x=>!okV s x)=true:=by simpa using ha'
    rw[this,ha']
    simp [uJ]
theorem xHp (l:List Int) (p:Int→Bool) (f:Int→Option Bool) (hf:∀ x,f x=some (p x)):∃ i,vD l f=some i∧decide (0≤i)=l.any p:=by
  unfold vD
  rw[dI (fun k x=>if p x then some (k:Int) else none) (fun j x hj=>by
    simp only[hf,bnd_s]
    by_cases hv:p x=true
    · simp [hv,pE]
    · simp [hv,pE])]
  have key:∀ (l:List Int) (k:Nat),(l.any p=true∧∃ i:Nat,fnd (fun k x=>if p x then some (k:Int) else none) l k=some (i:Int))∨(l.any p=false∧fnd (fun k x=>if p x then some (k:Int) else none) l k=none):=by
    intro l
    induction l with
    | nil=>intro k;exact .inr ⟨rfl,rfl⟩
    | cons x l ih=>
      intro k
      unfold fnd
      by_cases hv:p x=true
      · exact .inl ⟨by simp [hv],k,by simp [hv]⟩
      · have hv':p x=false:=by simpa using hv
        rcases ih (k+1) with ⟨h1,i,h2⟩ | ⟨h1,h2⟩
        · exact .inl ⟨by simp [h1],i,by simp [hv',h2]⟩
        · exact .inr ⟨by simp [h1,hv'],by simp [hv',h2]⟩
  rcases key l 0 with ⟨h1,i,h2⟩ | ⟨h1,h2⟩
  · rw[h2];exact⟨i,rfl,by simp [h1]⟩
  · rw[h2];exact⟨-1,rfl,by simp [h1]⟩
theorem rY (l:List Int) (p:Int→Bool) (f:Int→Option Bool) (hf:∀ x,f x=some (p x)):qT l f=some (l.any p):=by
  obtain⟨i,h1,h2⟩:=xHp l p f hf
  unfold qT
  rw[h1,bnd_s,h2]
theorem xBh {s:Int} (h:okS s=true) (ar:Int) (t:List Int):zO s t ar=some (pS s t ar):=by
  unfold zO
  rw[rY t (fun x=>!okV s x) _ (fun x=>by unfold aU;rw[xEk h];rfl)]
  unfold pS
  by_cases hl:((t.length:Int)==ar)=true
  · rw[hl]
    simp
    rw[Bool.eq_iff_iff]
    simp
  · have:((t.length:Int)==ar)=false:=by simpa using hl
    rw[this]
    simp
def jT (a b:Int):Int:=if a<b then -1 else if b<a then 1 else 0
def bX:List Int→List Int→Int
  | [],[]=>0
  | [],_::_=>-1
  | _::_,[]=>1
  | a::l,b::m=>if jT a b≠0 then jT a b else bX l m
theorem xFt (a b:Int):bF a b=some (jT a b):=by
  unfold bF eC jT
  by_cases h:a<b
  · simp [h]
  · by_cases h2:b<a<;>simp [h,h2]
theorem jD {a b:Int}:jT a b=0↔a=b:=by
  unfold jT
  split
  · constructor<;>omega
  · split<;>constructor<;>omega
theorem yD (l m:List Int):zC l m=some (bX l m):=by
  unfold zC
  suffices H:∀ (l r:List Int) (k:Nat),m.drop k=r→k≤m.length→∀ (n:Int),n=k+l.length →
      zW (qR (σ:=Unit) (ρ:=Int) (fun(k25:Nat) (x27:Int) (s:Unit)=>
        match s with
        | _=>
          if (decide ((m.length:Int)≤(k25:Int))) then
            some (.ret 1)
          else
            xZ (ix m (k25:Int)) fun z38=>
            xZ (bF x27 z38) fun z45=>
            if (z45 != 0) then
              some (.ret z45)
            else
              some (.go ())) l k ()) (fun _=>if (decide (n<(m.length:Int))) then some (-1) else some 0)=some (bX l r) from H l m 0 (by simp) (by omega) _ (by simp)
  intro l
  induction l with
  | nil=>
    intro r k hr hk n hn;have hl:=congrArg List.length hr;rw[List.length_drop] at hl
    cases r with
    | nil=>
      have:¬ n<(m.length:Int):=by simp at hl hn;omega
      rw[forL_nil',thn_nx,if_neg (by simpa using this)]
      rfl
    | cons b r=>
      have:n<(m.length:Int):=by simp at hl hn;omega
      rw[forL_nil',thn_nx,if_pos (by simpa using this)]
      rfl
  | cons a l ih=>
    intro r k hr hk n hn;have hl:=congrArg List.length hr;rw[List.length_drop] at hl
    cases r with
    | nil=>
      have:(m.length:Int)≤(k:Int):=by simp at hl;omega
      rw[fU (r:=1) (by simp [this])]
      rfl
    | cons b r=>
      have h1:¬ (m.length:Int)≤(k:Int):=by simp at hl;omega
      have h2:m[k]?=some b:=by rw[← List.head?_drop,hr];rfl
      have h3:m.drop (k+1)=r:=by rw[← List.drop_drop,hr];rfl
      unfold bX
      by_cases hc:jT a b=0
      · rw[aB (s':=()) (by simp [h1,vH h2,xFt,hc])]
        rw[show(if jT a b≠0 then jT a b else bX l r)=bX l r from if_neg (by simp [hc])];exact ih r (k+1) h3 (by simp at hl;omega) n (by rw[hn,List.length_cons];push_cast;omega)
      · rw[fU (r:=jT a b) (by simp [h1,vH h2,xFt,hc])]
        rw[if_pos hc]
        rfl
theorem xGz (l m:List Int) (hlen:l.length=m.length):dH l m=some (decide (bX l m<0)):=by
  unfold dH
  suffices H:∀ (l r:List Int) (k:Nat),m.drop k=r→l.length=r.length →
      zW (qR (σ:=Unit) (ρ:=Bool) (fun(k32:Nat) (x34:Int) (s:Unit)=>
        match s with
        | _=>
          xZ (ix m (k32:Int)) fun z44=>
          if (x34 != z44) then
            some (.ret ((decide (x34<z44))))
          else
            some (.go ())) l k ()) (fun _=>some false)=some (decide (bX l r<0)) from H l m 0 (by simp) hlen
  intro l
  induction l with
  | nil=>
    intro r k hr hl
    cases r with
    | nil=>rfl
    | cons b r=>simp at hl
  | cons a l ih=>
    intro r k hr hl
    cases r with
    | nil=>simp at hl
    | cons b r=>
      have h2:m[k]?=some b:=by rw[← List.head?_drop,hr];rfl
      have h3:m.drop (k+1)=r:=by rw[← List.drop_drop,hr];rfl
      unfold bX
      by_cases hc:a=b
      · have hj:=jD.2 hc
        rw[aB (s':=()) (by simp [vH h2,hc])];rw[show(if jT a b≠0 then jT a b else bX l r)=bX l r from if_neg (by simp [hj])];exact ih r (k+1) h3 (by simpa using hl)
      · have hj:jT a b≠0:=fun h=>hc (jD.1 h)
        rw[fU (r:=decide (a<b)) (by simp [vH h2,hc])];rw[if_pos hj]
        unfold jT
        by_cases hlt:a<b
        · simp [hlt]
        · by_cases hgt:b<a
          · simp [hlt,hgt]
          · omega
theorem xKs (s:Int) (x:Rel) (hN:x.tuples.length≤1048576):∃ b,fZ s x=some b∧bT s x=some b∧(b=true→okS s=true∧okS x.arity=true∧(∀ t∈x.tuples,pS s t x.arity=true)∧∀ j t u,x.tuples[j]?=some t→x.tuples[j+1]?=some u→bX t u<0):=by
  unfold fZ bT
  simp only[yB,xAf,xDm,xFc,bnd_s]
  by_cases hs:okS s=true
  · by_cases ha:okS x.arity=true
    · simp only[hs,ha,Bool.not_true,Bool.false_eq_true,if_false,thn_nx]
      obtain⟨q,h1,h2,h3,h4⟩:=xDo (ρ:=Bool) (l:=x.tuples) (k:=0) (fun i=>(∀ j t,j<i→x.tuples[j]?=some t→pS s t x.arity=true)∧∀ j t u,j+1<i→x.tuples[j]?=some t→x.tuples[j+1]?=some u→bX t u<0) (fun r=>r=false)
        (f:=fun(k181:Nat) (x183:(List Int)) (s_1:Unit)=>
          zW (σ:=Bool) (
            xZ (eG s x.arity x183) fun z284=>
            if (!z284) then   some (.nx true) else   if (decide (0<(k181:Int))) then   xZ (ck ((k181:Int) - 1)) fun z296=>
                xZ (ix x.tuples z296) fun z298=>
                xZ (dH z298 x183) fun z324=>
                some (.nx (!z324)) else   some (.nx false)) fun s262=>
          if s262 then
            some (.ret false)
          else
            some (.go ()))
        (g:=fun(k80:Nat) (x82:(List Int)) (s_1:Unit)=>
          zW (σ:=Bool) (
            xZ (zO s x82 x.arity) fun z116=>
            if (!z116) then   some (.nx true) else   if (decide (0<(k80:Int))) then   xZ (ck ((k80:Int) - 1)) fun z120=>
                xZ (ix x.tuples z120) fun z122=>
                xZ (zC z122 x82) fun z132=>
                some (.nx (decide (0≤z132))) else   some (.nx false)) fun s115=>
          if s115 then
            some (.ret false)
          else
            some (.go ()))
        ⟨fun j t hj=>by omega,fun j t u hj=>by omega⟩
        (fun j t hj hii=>by
          rw[Nat.zero_add] at hii ⊢;obtain⟨hi,hs2⟩:=hii;simp only[xCu hs,xBh hs,bnd_s]
          by_cases hv:pS s t x.arity=true
          · simp only[hv,Bool.not_true,Bool.false_eq_true,if_false]
            have hi2:∀ i u,i<j+1→x.tuples[i]?=some u→pS s u x.arity=true:=fun i u hlt hu=>by
              by_cases hij:i<j
              · exact hi i u hij hu
              · obtain rfl:i=j:=by omega
                rw[hj] at hu;rw[← Option.some.inj hu];exact hv
            by_cases h0:0<j
            · have hjl:j<x.tuples.length:=(List.getElem?_eq_some_iff.1 hj).1
              have hp:x.tuples[j - 1]?=some (x.tuples[j - 1]'(by omega)):=List.getElem?_eq_getElem (by omega);have hpv:=hi (j - 1) _ (by omega) hp;generalize x.tuples[j - 1]'(by omega)=p at hp hpv
              have hlen:p.length=t.length:=by
                unfold pS at hpv hv
                simp at hpv hv
                omega
              have hck:ck ((j:Int) - 1)=some ((j:Int) - 1):=zT (by omega) (by omega);have hx:ix x.tuples ((j:Int) - 1)=some p:=dT (by omega) (by rw[show((j:Int) - 1).toNat=j - 1 by omega];exact hp)
              have h0':(0:Int)<(j:Int):=by omega
              simp only[h0',decide_true,if_true,hck,hx,bnd_s,xGz p t hlen,yD,thn_nx]
              by_cases hc:bX p t<0
              · have hc2:¬ 0≤bX p t:=by omega
                simp only[hc,hc2,decide_true,decide_false,Bool.not_true,Bool.false_eq_true,if_false];refine⟨none,rfl,rfl,fun _=>⟨hi2,fun i a b hib ha hb=>?_⟩,fun _ h=>nomatch h⟩
                by_cases hij:i+1<j
                · exact hs2 i a b hij ha hb
                · obtain rfl:j=i+1:=by omega
                  rw[show i+1 - 1=i by omega] at hp;rw[hp] at ha;rw[hj] at hb;rw[← Option.some.inj ha,← Option.some.inj hb];exact hc
              · have hc2:0≤bX p t:=by omega
                simp only[hc,hc2,decide_true,decide_false,Bool.not_false,if_true];exact⟨some false,rfl,rfl,(fun h=>nomatch h),fun r h=>(Option.some.inj h).symm⟩
            · have h0':¬ (0:Int)<(j:Int):=by omega
              simp only[h0',decide_false,Bool.false_eq_true,if_false,thn_nx];exact⟨none,rfl,rfl,fun _=>⟨hi2,fun i a b hib=>by omega⟩,fun _ h=>nomatch h⟩
          · have hv':pS s t x.arity=false:=by simpa using hv
            simp only[hv',Bool.not_false,if_true,thn_nx]
            exact⟨some false,rfl,rfl,(fun h=>nomatch h),fun r h=>(Option.some.inj h).symm⟩)
      rw[h1,h2]
      cases q with
      | some r=>exact⟨r,rfl,rfl,fun h=>by rw[h4 r rfl] at h;cases h⟩
      | none=>exact⟨true,rfl,rfl,fun _=>⟨trivial,trivial,(fun t ht=>by
          obtain⟨i,hi,rfl⟩:=List.mem_iff_getElem.1 ht
          exact(h3 rfl).1 i _ (by omega) (List.getElem?_eq_getElem hi)),fun j t u ht hu=>(h3 rfl).2 j t u (by have:=(List.getElem?_eq_some_iff.1 hu).1;omega) ht hu⟩⟩
    · have ha':okS x.arity=false:=by simpa using ha
      simp only[hs,ha',Bool.not_true,Bool.not_false,Bool.false_eq_true,if_false,if_true,thn_nx];exact⟨false,rfl,rfl,fun h=>nomatch h⟩
  · have hs':okS s=false:=by simpa using hs
    simp only[hs',Bool.not_false,if_true,thn_nx];exact⟨false,rfl,rfl,fun h=>nomatch h⟩
theorem xPg (s:Int) (x:Rel) (hN:x.tuples.length≤1048576):∃ b,fZ s x=some b∧bT s x=some b∧(b=true→okS s=true∧okS x.arity=true∧∀ t∈x.tuples,pS s t x.arity=true):=by
  obtain⟨b,h1,h2,h3⟩:=xKs s x hN;exact⟨b,h1,h2,fun h=>⟨(h3 h).1,(h3 h).2.1,(h3 h).2.2.1⟩⟩
end Go.Proofs.YtghihmkhdhjhiaaGreatDoor
namespace Go.Proofs.YtghihmkhdhjhiaaGreatDoor
set_option linter.unusedVariables false
set_option linter.unusedSimpArgs false
def jR (s:Int) (x:Rel):Bool:=(bT s x).getD false
theorem xGp (s:Int) (x:Rel) (hN:x.tuples.length≤1048576):fZ s x=some (jR s x)∧bT s x=some (jR s x)∧(jR s x=true→okS s=true∧okS x.arity=true∧∀ t∈x.tuples,pS s t x.arity=true):=by
  obtain⟨b,h1,h2,h3⟩:=xPg s x hN
  have:jR s x=b:=by unfold jR;rw[h2];rfl
  rw[this];exact⟨h1,h2,h3⟩
theorem xBb (l:List Rel) (p:Rel→Bool) (f:Rel→Option Bool) (hf:∀ x∈l,f x=some (p x)):kA l f=some (l.any p):=by
  obtain⟨i,h1,h2⟩:=lX l p f hf
  unfold kA
  rw[show aM l f=some i from h1,bnd_s,h2]
def nT (x:Template):Bool:=okS x.size && (decide ((x.rels.length:Int)≤6) && x.rels.all (jR x.size))
def sH (x:Template):Prop:=∀ r∈x.rels,r.tuples.length≤1048576
theorem wB (x:Template) (hx:sH x):dN x=some (nT x):=by
  unfold dN
  rw[dI (fun _ r=>if !jR x.size r then some false else none) (fun j r hj=>by
    simp only[(xGp x.size r (hx r (List.mem_of_getElem? hj))).1,bnd_s]
    by_cases hv:jR x.size r=true
    · simp [hv,pE]
    · simp [hv,pE])]
  rw[mF]
  unfold nT
  by_cases ha:x.rels.all (jR x.size)=true
  · have:x.rels.any (fun r=>!jR x.size r)=false:=by simpa using ha
    rw[this,ha];simp only[uJ,Bool.false_eq_true,if_false,thn_nx,yB,bnd_s]
    by_cases hs:okS x.size=true
    · simp [hs]
    · have hs':okS x.size=false:=by simpa using hs
      simp [hs']
  · have ha':x.rels.all (jR x.size)=false:=by simpa using ha
    have:x.rels.any (fun r=>!jR x.size r)=true:=by simpa using ha'
    rw[this,ha']
    simp [uJ]
theorem sL (x:Template) (hx:sH x):aV x=some (nT x):=by
  unfold aV nT
  rw[xAf,xBb x.rels (fun r=>!jR x.size r) _ (fun r hr=>by
    unfold cQ
    rw[show Rel.mk r.arity r.tuples=r from rfl,show(Template.mk x.size x.rels).size=x.size from rfl,(xGp x.size r (hx r hr)).2.1]
    rfl)]
  simp only[bnd_s]
  by_cases hs:okS x.size=true
  · by_cases hl:(x.rels.length:Int)≤6
    · simp only[hs,hl,decide_true,if_true,thn_nx,Bool.true_and]
      congr 1
      rw[Bool.eq_iff_iff]
      simp
    · simp [hs,hl]
  · have hs':okS x.size=false:=by simpa using hs
    simp [hs']
end Go.Proofs.YtghihmkhdhjhiaaGreatDoor
