import Derived.Test.YtncganhbpbehaaaGreatP2
import Derived.Test.YtncganhbpbehaaaGreatPC
import Derived.Test.YtncganhbpbehaaaGreatQ2
import Derived.Test.YtncganhbpbehaaaGreatM1
namespace Go.Proofs.YtncganhbpbehaaaGreat
end Go.Proofs.YtncganhbpbehaaaGreat
namespace Go.Proofs.YtncganhbpbehaaaGreat
end Go.Proofs.YtncganhbpbehaaaGreat
namespace Go.Proofs.YtncganhbpbehaaaGreat
end Go.Proofs.YtncganhbpbehaaaGreat
namespace Go.Proofs.YtncganhbpbehaaaGreat
end Go.Proofs.YtncganhbpbehaaaGreat
namespace Go.Proofs.YtncganhbpbehaaaGreat
set_option linter.unusedVariables false
set_option linter.unusedSimpArgs false
theorem gJ (a lo hi:Int):bZ a lo hi=some (decide (lo≤a) && decide (a≤hi)):=by
  unfold bZ
  by_cases h:lo≤a
  · simp [h]
  · simp [h]
theorem iO (a lo hi:Int):bP a lo hi=some (decide (lo≤a) && decide (a≤hi)):=gJ a lo hi
def okS (s:Int):Bool:=decide (1≤s) && decide (s≤4)
def okV (s a:Int):Bool:=decide (0≤a) && decide (a≤s - 1)
def sH (s:Int) (t:List Int) (ar:Int):Bool:=((t.length:Int)==ar) && t.all (okV s)
theorem tT {s:Int} (h:okS s=true):1≤s∧s≤4:=by simpa [okS] using h
theorem xBe (s:Int):iF s=some (okS s):=by unfold iF;rw[gJ];rfl
theorem yJ (s:Int):gF s=some (okS s):=by unfold gF;rw[gJ];rfl
theorem yW (s:Int):gI s=some (okS s):=by unfold gI;rw[iO];rfl
theorem xFe (s:Int):gR s=some (okS s):=by unfold gR;rw[iO];rfl
theorem ckS {s:Int} (h:okS s=true):ck (s - 1)=some (s - 1):=by have:=tT h;exact kE (by omega) (by omega)
theorem yG {s:Int} (h:okS s=true) (a:Int):dU s a=some (okV s a):=by
  unfold dU
  rw[ckS h,bnd_s,gJ]
  rfl
theorem xFm {s:Int} (h:okS s=true) (ar:Int) (t:List Int):fM s ar t=some (sH s t ar):=by
  unfold fM
  rw[dV (fun _ x=>if !okV s x then some false else none) (fun j x hj=>by
    simp only[ckS h,bnd_s,iO]
    show(if (!okV s x)=true then _ else _)=_
    by_cases hv:okV s x=true
    · simp [hv,rS]
    · simp [hv,rS])]
  rw[mM]
  unfold sH
  by_cases ha:t.all (okV s)=true
  · have:t.any (fun x=>!okV s x)=false:=by simpa using ha
    rw[this,ha]
    simp [xAd]
  · have ha':t.all (okV s)=false:=by simpa using ha
    have:t.any (fun x=>!okV s x)=true:=by simpa using ha'
    rw[this,ha']
    simp [xAd]
theorem xIo (l:List Int) (p:Int→Bool) (f:Int→Option Bool) (hf:∀ x,f x=some (p x)):∃ i,vV l f=some i∧decide (0≤i)=l.any p:=by
  unfold vV
  rw[dV (fun k x=>if p x then some (k:Int) else none) (fun j x hj=>by
    simp only[hf,bnd_s]
    by_cases hv:p x=true
    · simp [hv,rS]
    · simp [hv,rS])]
  have key:∀ (l:List Int) (k:Nat),(l.any p=true∧∃ i:Nat,fnd (fun k x=>if p x then some (k:Int) else none) l k=some (i:Int))∨(l.any p=false∧fnd (fun k x=>if p x then some (k:Int) else none) l k=none):=by
    intro l
    induction l with
    | nil=>intro k;exact .inr ⟨rfl,rfl⟩
    | cons x l ih=>
      intro k
      unfold fnd
      by_cases hv:p x=true
      · exact .inl ⟨by simp [hv],k,by simp [hv]⟩
      · have hv':p x=false:=by simpa using hv
        rcases ih (k+1) with ⟨h1,i,h2⟩ | ⟨h1,h2⟩
        · exact .inl ⟨by simp [h1],i,by simp [hv',h2]⟩
        · exact .inr ⟨by simp [h1,hv'],by simp [hv',h2]⟩
  rcases key l 0 with ⟨h1,i,h2⟩ | ⟨h1,h2⟩
  · rw[h2];exact⟨i,rfl,by simp [h1]⟩
  · rw[h2];exact⟨-1,rfl,by simp [h1]⟩
theorem tO (l:List Int) (p:Int→Bool) (f:Int→Option Bool) (hf:∀ x,f x=some (p x)):zY l f=some (l.any p):=by
  obtain⟨i,h1,h2⟩:=xIo l p f hf
  unfold zY
  rw[h1,bnd_s,h2]
theorem xCz {s:Int} (h:okS s=true) (ar:Int) (t:List Int):aY s t ar=some (sH s t ar):=by
  unfold aY
  rw[tO t (fun x=>!okV s x) _ (fun x=>by unfold eU;rw[yG h];rfl)]
  unfold sH
  by_cases hl:((t.length:Int)==ar)=true
  · rw[hl]
    simp
    rw[Bool.eq_iff_iff]
    simp
  · have:((t.length:Int)==ar)=false:=by simpa using hl
    rw[this]
    simp
def mE (a b:Int):Int:=if a<b then -1 else if b<a then 1 else 0
def dD:List Int→List Int→Int
  | [],[]=>0
  | [],_::_=>-1
  | _::_,[]=>1
  | a::l,b::m=>if mE a b≠0 then mE a b else dD l m
theorem xHg (a b:Int):cF a b=some (mE a b):=by
  unfold cF fH mE
  by_cases h:a<b
  · simp [h]
  · by_cases h2:b<a<;>simp [h,h2]
theorem lO {a b:Int}:mE a b=0↔a=b:=by
  unfold mE
  split
  · constructor<;>omega
  · split<;>constructor<;>omega
theorem yN (l m:List Int):zN l m=some (dD l m):=by
  unfold zN
  suffices H:∀ (l r:List Int) (k:Nat),m.drop k=r→k≤m.length→∀ (n:Int),n=k+l.length →
      zR (qT (σ:=Unit) (ρ:=Int) (fun(k25:Nat) (x27:Int) (s:Unit)=>
        match s with
        | _=>
          if (decide ((m.length:Int)≤(k25:Int))) then
            some (.ret 1)
          else
            xZ (ix m (k25:Int)) fun z38=>
            xZ (cF x27 z38) fun z45=>
            if (z45 != 0) then
              some (.ret z45)
            else
              some (.go ())) l k ()) (fun _=>if (decide (n<(m.length:Int))) then some (-1) else some 0)=some (dD l r) from H l m 0 (by simp) (by omega) _ (by simp)
  intro l
  induction l with
  | nil=>
    intro r k hr hk n hn;have hl:=congrArg List.length hr;rw[List.length_drop] at hl
    cases r with
    | nil=>
      have:¬ n<(m.length:Int):=by simp at hl hn;omega
      rw[forL_nil',thn_nx,if_neg (by simpa using this)]
      rfl
    | cons b r=>
      have:n<(m.length:Int):=by simp at hl hn;omega
      rw[forL_nil',thn_nx,if_pos (by simpa using this)]
      rfl
  | cons a l ih=>
    intro r k hr hk n hn;have hl:=congrArg List.length hr;rw[List.length_drop] at hl
    cases r with
    | nil=>
      have:(m.length:Int)≤(k:Int):=by simp at hl;omega
      rw[jH (r:=1) (by simp [this])]
      rfl
    | cons b r=>
      have h1:¬ (m.length:Int)≤(k:Int):=by simp at hl;omega
      have h2:m[k]?=some b:=by rw[← List.head?_drop,hr];rfl
      have h3:m.drop (k+1)=r:=by rw[← List.drop_drop,hr];rfl
      unfold dD
      by_cases hc:mE a b=0
      · rw[kB (s':=()) (by simp [h1,qX h2,xHg,hc])]
        rw[show(if mE a b≠0 then mE a b else dD l r)=dD l r from if_neg (by simp [hc])];exact ih r (k+1) h3 (by simp at hl;omega) n (by rw[hn,List.length_cons];push_cast;omega)
      · rw[jH (r:=mE a b) (by simp [h1,qX h2,xHg,hc])]
        rw[if_pos hc]
        rfl
theorem xIq (l m:List Int) (hlen:l.length=m.length):eN l m=some (decide (dD l m<0)):=by
  unfold eN
  suffices H:∀ (l r:List Int) (k:Nat),m.drop k=r→l.length=r.length →
      zR (qT (σ:=Unit) (ρ:=Bool) (fun(k32:Nat) (x34:Int) (s:Unit)=>
        match s with
        | _=>
          xZ (ix m (k32:Int)) fun z44=>
          if (x34 != z44) then
            some (.ret ((decide (x34<z44))))
          else
            some (.go ())) l k ()) (fun _=>some false)=some (decide (dD l r<0)) from H l m 0 (by simp) hlen
  intro l
  induction l with
  | nil=>
    intro r k hr hl
    cases r with
    | nil=>rfl
    | cons b r=>simp at hl
  | cons a l ih=>
    intro r k hr hl
    cases r with
    | nil=>simp at hl
    | cons b r=>
      have h2:m[k]?=some b:=by rw[← List.head?_drop,hr];rfl
      have h3:m.drop (k+1)=r:=by rw[← List.drop_drop,hr];rfl
      unfold dD
      by_cases hc:a=b
      · have hj:=lO.2 hc
        rw[kB (s':=()) (by simp [qX h2,hc])];rw[show(if mE a b≠0 then mE a b else dD l r)=dD l r from if_neg (by simp [hj])];exact ih r (k+1) h3 (by simpa using hl)
      · have hj:mE a b≠0:=fun h=>hc (lO.1 h)
        rw[jH (r:=decide (a<b)) (by simp [qX h2,hc])];rw[if_pos hj]
        unfold mE
        by_cases hlt:a<b
        · simp [hlt]
        · by_cases hgt:b<a
          · simp [hlt,hgt]
          · omega
theorem xKw (s:Int) (x:Rel) (hN:x.tuples.length≤1048576):∃ b,iB s x=some b∧cW s x=some b∧(b=true→okS s=true∧okS x.arity=true∧(∀ t∈x.tuples,sH s t x.arity=true)∧∀ j t u,x.tuples[j]?=some t→x.tuples[j+1]?=some u→dD t u<0):=by
  unfold iB cW
  simp only[yW,xBe,xFe,yJ,bnd_s]
  by_cases hs:okS s=true
  · by_cases ha:okS x.arity=true
    · simp only[hs,ha,Bool.not_true,Bool.false_eq_true,if_false,thn_nx]
      obtain⟨q,h1,h2,h3,h4⟩:=xEg (ρ:=Bool) (l:=x.tuples) (k:=0) (fun i=>(∀ j t,j<i→x.tuples[j]?=some t→sH s t x.arity=true)∧∀ j t u,j+1<i→x.tuples[j]?=some t→x.tuples[j+1]?=some u→dD t u<0) (fun r=>r=false)
        (f:=fun(k181:Nat) (x183:(List Int)) (s_1:Unit)=>
          zR (σ:=Bool) (
            xZ (fM s x.arity x183) fun z284=>
            if (!z284) then   some (.nx true) else   if (decide (0<(k181:Int))) then   xZ (ck ((k181:Int) - 1)) fun z296=>
                xZ (ix x.tuples z296) fun z298=>
                xZ (eN z298 x183) fun z324=>
                some (.nx (!z324)) else   some (.nx false)) fun s262=>
          if s262 then
            some (.ret false)
          else
            some (.go ()))
        (g:=fun(k80:Nat) (x82:(List Int)) (s_1:Unit)=>
          zR (σ:=Bool) (
            xZ (aY s x82 x.arity) fun z116=>
            if (!z116) then   some (.nx true) else   if (decide (0<(k80:Int))) then   xZ (ck ((k80:Int) - 1)) fun z120=>
                xZ (ix x.tuples z120) fun z122=>
                xZ (zN z122 x82) fun z132=>
                some (.nx (decide (0≤z132))) else   some (.nx false)) fun s115=>
          if s115 then
            some (.ret false)
          else
            some (.go ()))
        ⟨fun j t hj=>by omega,fun j t u hj=>by omega⟩
        (fun j t hj hii=>by
          rw[Nat.zero_add] at hii ⊢;obtain⟨hi,hs2⟩:=hii;simp only[xFm hs,xCz hs,bnd_s]
          by_cases hv:sH s t x.arity=true
          · simp only[hv,Bool.not_true,Bool.false_eq_true,if_false]
            have hi2:∀ i u,i<j+1→x.tuples[i]?=some u→sH s u x.arity=true:=fun i u hlt hu=>by
              by_cases hij:i<j
              · exact hi i u hij hu
              · obtain rfl:i=j:=by omega
                rw[hj] at hu;rw[← Option.some.inj hu];exact hv
            by_cases h0:0<j
            · have hjl:j<x.tuples.length:=(List.getElem?_eq_some_iff.1 hj).1
              have hp:x.tuples[j - 1]?=some (x.tuples[j - 1]'(by omega)):=List.getElem?_eq_getElem (by omega);have hpv:=hi (j - 1) _ (by omega) hp;generalize x.tuples[j - 1]'(by omega)=p at hp hpv
              have hlen:p.length=t.length:=by
                unfold sH at hpv hv
                simp at hpv hv
                omega
              have hck:ck ((j:Int) - 1)=some ((j:Int) - 1):=kE (by omega) (by omega);have hx:ix x.tuples ((j:Int) - 1)=some p:=gN (by omega) (by rw[show((j:Int) - 1).toNat=j - 1 by omega];exact hp)
              have h0':(0:Int)<(j:Int):=by omega
              simp only[h0',decide_true,if_true,hck,hx,bnd_s,xIq p t hlen,yN,thn_nx]
              by_cases hc:dD p t<0
              · have hc2:¬ 0≤dD p t:=by omega
                simp only[hc,hc2,decide_true,decide_false,Bool.not_true,Bool.false_eq_true,if_false];refine⟨none,rfl,rfl,fun _=>⟨hi2,fun i a b hib ha hb=>?_⟩,fun _ h=>nomatch h⟩
                by_cases hij:i+1<j
                · exact hs2 i a b hij ha hb
                · obtain rfl:j=i+1:=by omega
                  rw[show i+1 - 1=i by omega] at hp;rw[hp] at ha;rw[hj] at hb;rw[← Option.some.inj ha,← Option.some.inj hb];exact hc
              · have hc2:0≤dD p t:=by omega
                simp only[hc,hc2,decide_true,decide_false,Bool.not_false,if_true];exact⟨some false,rfl,rfl,(fun h=>nomatch h),fun r h=>(Option.some.inj h).symm⟩
            · have h0':¬ (0:Int)<(j:Int):=by omega
              simp only[h0',decide_false,Bool.false_eq_true,if_false,thn_nx];exact⟨none,rfl,rfl,fun _=>⟨hi2,fun i a b hib=>by omega⟩,fun _ h=>nomatch h⟩
          · have hv':sH s t x.arity=false:=by simpa using hv
            simp only[hv',Bool.not_false,if_true,thn_nx]
            exact⟨some false,rfl,rfl,(fun h=>nomatch h),fun r h=>(Option.some.inj h).symm⟩)
      rw[h1,h2]
      cases q with
      | some r=>exact⟨r,rfl,rfl,fun h=>by rw[h4 r rfl] at h;cases h⟩
      | none=>exact⟨true,rfl,rfl,fun _=>⟨trivial,trivial,(fun t ht=>by
          obtain⟨i,hi,rfl⟩:=List.mem_iff_getElem.1 ht
          exact(h3 rfl).1 i _ (by omega) (List.getElem?_eq_getElem hi)),fun j t u ht hu=>(h3 rfl).2 j t u (by have:=(List.getElem?_eq_some_iff.1 hu).1;omega) ht hu⟩⟩
    · have ha':okS x.arity=false:=by simpa using ha
      simp only[hs,ha',Bool.not_true,Bool.not_false,Bool.false_eq_true,if_false,if_true,thn_nx];exact⟨false,rfl,rfl,fun h=>nomatch h⟩
  · have hs':okS s=false:=by simpa using hs
    simp only[hs',Bool.not_false,if_true,thn_nx];exact⟨false,rfl,rfl,fun h=>nomatch h⟩
theorem xPq (s:Int) (x:Rel) (hN:x.tuples.length≤1048576):∃ b,iB s x=some b∧cW s x=some b∧(b=true→okS s=true∧okS x.arity=true∧∀ t∈x.tuples,sH s t x.arity=true):=by
  obtain⟨b,h1,h2,h3⟩:=xKw s x hN;exact⟨b,h1,h2,fun h=>⟨(h3 h).1,(h3 h).2.1,(h3 h).2.2.1⟩⟩
end Go.Proofs.YtncganhbpbehaaaGreat
namespace Go.Proofs.YtncganhbpbehaaaGreat
set_option linter.unusedVariables false
set_option linter.unusedSimpArgs false
def lG (s:Int) (x:Rel):Bool:=(cW s x).getD false
theorem xHz (s:Int) (x:Rel) (hN:x.tuples.length≤1048576):iB s x=some (lG s x)∧cW s x=some (lG s x)∧(lG s x=true→okS s=true∧okS x.arity=true∧∀ t∈x.tuples,sH s t x.arity=true):=by
  obtain⟨b,h1,h2,h3⟩:=xPq s x hN
  have:lG s x=b:=by unfold lG;rw[h2];rfl
  rw[this];exact⟨h1,h2,h3⟩
theorem xCl (l:List Rel) (p:Rel→Bool) (f:Rel→Option Bool) (hf:∀ x∈l,f x=some (p x)):kQ l f=some (l.any p):=by
  obtain⟨i,h1,h2⟩:=jL l p f hf
  unfold kQ
  rw[show bC l f=some i from h1,bnd_s,h2]
def pD (x:Template):Bool:=okS x.size && (decide ((x.rels.length:Int)≤6) && x.rels.all (lG x.size))
def tU (x:Template):Prop:=∀ r∈x.rels,r.tuples.length≤1048576
theorem yS (x:Template) (hx:tU x):eO x=some (pD x):=by
  unfold eO
  rw[dV (fun _ r=>if !lG x.size r then some false else none) (fun j r hj=>by
    simp only[(xHz x.size r (hx r (List.mem_of_getElem? hj))).1,bnd_s]
    by_cases hv:lG x.size r=true
    · simp [hv,rS]
    · simp [hv,rS])]
  rw[mM]
  unfold pD
  by_cases ha:x.rels.all (lG x.size)=true
  · have:x.rels.any (fun r=>!lG x.size r)=false:=by simpa using ha
    rw[this,ha];simp only[xAd,Bool.false_eq_true,if_false,thn_nx,yW,bnd_s]
    by_cases hs:okS x.size=true
    · simp [hs]
    · have hs':okS x.size=false:=by simpa using hs
      simp [hs']
  · have ha':x.rels.all (lG x.size)=false:=by simpa using ha
    have:x.rels.any (fun r=>!lG x.size r)=true:=by simpa using ha'
    rw[this,ha']
    simp [xAd]
theorem uL (x:Template) (hx:tU x):bK x=some (pD x):=by
  unfold bK pD
  rw[xBe,xCl x.rels (fun r=>!lG x.size r) _ (fun r hr=>by
    unfold dQ
    rw[show Rel.mk r.arity r.tuples=r from rfl,show(Template.mk x.size x.rels).size=x.size from rfl,(xHz x.size r (hx r hr)).2.1]
    rfl)]
  simp only[bnd_s]
  by_cases hs:okS x.size=true
  · by_cases hl:(x.rels.length:Int)≤6
    · simp only[hs,hl,decide_true,if_true,thn_nx,Bool.true_and]
      congr 1
      rw[Bool.eq_iff_iff]
      simp
    · simp [hs,hl]
  · have hs':okS x.size=false:=by simpa using hs
    simp [hs']
end Go.Proofs.YtncganhbpbehaaaGreat
namespace Go.Proofs.YtncganhbpbehaaaGreat
set_option linter.unusedVariables false
set_option linter.unusedSimpArgs false
theorem xLv:∀ n:Nat,n<5→fN 0 (n:Int)=aL (n:Int)∧(∃ l,aL (n:Int)=some l∧l.length≤4):=by
  intro n hn
  match n,hn with
  | 0,_=>exact⟨by decide +kernel,_,rfl,by decide⟩
  | 1,_=>exact⟨by decide +kernel,_,rfl,by decide⟩
  | 2,_=>exact⟨by decide +kernel,_,rfl,by decide⟩
  | 3,_=>exact⟨by decide +kernel,_,rfl,by decide⟩
  | 4,_=>exact⟨by decide +kernel,_,rfl,by decide⟩
theorem xLg {a:Int} (h:okS a=true):∃ l,aL a=some l∧fN 0 a=some l∧l.length≤4:=by
  have:=tT h;obtain⟨n,rfl⟩:∃ n:Nat,a=n:=⟨a.toNat,by omega⟩;obtain⟨h1,l,h2,h3⟩:=xLv n (by omega);exact⟨l,h2,by rw[h1];exact h2,h3⟩
end Go.Proofs.YtncganhbpbehaaaGreat
