import Derived.Test.YtlommebgedmjdaaGreatDoorLL
import Derived.Test.YtlommebgedmjdaaGreatDoorM1
namespace Go.Proofs.YtlommebgedmjdaaGreatDoor
set_option linter.unusedVariables false
def rQ (N:Nat) (x0:Template) (x1:Template) (x2:Gadgets):Option Bool:=
 xK (dJ N (Template.mk x0.size x0.rels) (Template.mk x1.size x1.rels) (Gadgets.mk x2.formulas)) fun z22=>
 some z22
def tR (N:Nat) (x0:Template) (x1:Template) (x2:Gadgets):Option (Int×(List Int)×Int):=
 xK (fO (Template.mk x0.size x0.rels) (Template.mk x1.size x1.rels) (Gadgets.mk x2.formulas)) fun z22=>
 if (!z22) then
  some (0,[],1)
 else
  xK (eN N (Template.mk x0.size x0.rels) (Template.mk x1.size x1.rels) (Gadgets.mk x2.formulas)) fun z27=>
  if (decide (z27.1<0)) then
   some (0,[],6)
  else
   xK (kL N x0.size z27.2.arity) fun z38=>
   vC (σ:=Unit) (
    aY (σ:=Unit) (ρ:=Int×(List Int)×Int) (fun(k60:Nat) (s:Unit)=>
      match s with
      | _=>
      xK (kH N x0.size z27.2.arity (k60:Int)) fun z66=>
      xK (cW (Rel.mk z27.2.arity z27.2.tuples) z66) fun z71=>
      xK (ix x0.rels z27.1) fun z73=>
      xK (cW z73 z66) fun z77=>
      if (z71 != z77) then
       some (.ret (z27.1,z66,0))
      else
       some (.go ())) z38.toNat 0 ()) fun _=>
   some (0,[],6)
def pD (x0:Formula):Option (Formula×Int):=
 vC (σ:=Bool) (
  if (decide (8<x0.vars)) then  some (.nx true) else  some (.nx (decide (16<(x0.atoms.length:Int))))) fun s18=>
 if s18 then
  some ((Formula.mk 0 0 ([])),3)
 else
  some ((Formula.mk x0.free x0.vars x0.atoms),0)
def gC (x0:Formula) (x1:Gadgets):Option Formula:=
 vC (σ:=Int×(List Atom)) (
  oM (σ:=Int×(List Atom)) (ρ:=Formula) (fun(k456:Nat) (x458:Atom) (s:Int×(List Atom))=>
    match s with
    | (s446,s448)=>
    if (x458.rel==(-1)) then
     xK (qE x458.args) fun z484=>
     xK (ap s448 ([(Atom.mk x458.rel z484)])) fun z492=>
     some (.go (s446,z492))
    else
     xK (ix x1.formulas x458.rel) fun z542=>
     xK (qE x458.args) fun z550=>
     vC (σ:=(List Int)×Int) (
      aY (σ:=(List Int)×Int) (ρ:=(Ctl (Int×(List Atom)) Formula)) (fun(k607:Nat) (s:(List Int)×Int)=>
        match s with
        | (s597,s600)=>
        xK (ap s597 ([s600])) fun z618=>
        xK (ck (s600+1)) fun z622=>
        some (.go (z618,z622))) (z542.vars - z542.free).toNat 0 (z550,s446)) fun(s602,s605)=>
     xK (aM z542.atoms s602) fun z631=>
     xK (ap s448 z631) fun z636=>
     some (.go (s605,z636))) x0.atoms 0 (x0.vars,[])) fun(s451,s453)=>
 some ((Formula.mk x0.free s451 s453))
def nO (N:Nat) (x0:Template) (x1:Template) (x2:Template) (x3:Gadgets) (x4:Gadgets):Option (Gadgets×Int):=
 vC (σ:=Bool) (
  xK (dJ N (Template.mk x0.size x0.rels) (Template.mk x1.size x1.rels) (Gadgets.mk x3.formulas)) fun z39=>
  if (!z39) then  some (.nx true) else  xK (dJ N (Template.mk x1.size x1.rels) (Template.mk x2.size x2.rels) (Gadgets.mk x4.formulas)) fun z42=>
   some (.nx (!z42))) fun s38=>
 if s38 then
  some ((Gadgets.mk ([])),1)
 else
  vC (σ:=(List Formula)) (
   oM (σ:=(List Formula)) (ρ:=Gadgets×Int) (fun(k126:Nat) (x128:Formula) (s120:(List Formula))=>
    xK (gC x128 (Gadgets.mk x4.formulas)) fun z135=>
    xK (pD (Formula.mk z135.free z135.vars z135.atoms)) fun z142=>
    if (z142.2 != 0) then
     some (.ret ((Gadgets.mk ([])),z142.2))
    else
     xK (ap s120 ([(Formula.mk z142.1.free z142.1.vars z142.1.atoms)])) fun z159=>
     some (.go z159)) x3.formulas 0 []) fun s123=>
  some ((Gadgets.mk s123),0)
def uP (N:Nat) (x0:Template) (x1:Template) (x2:Gadgets) (x3:Instance) (x4:List Int):Option ((List Int)×Int):=
 xK (aP N (Template.mk x0.size x0.rels) (Template.mk x1.size x1.rels) (Gadgets.mk x2.formulas) (Instance.mk x3.vars x3.cons)) fun z26=>
 if (!z26) then
  some ([],1)
 else
  xK (aN (Gadgets.mk x2.formulas) (Instance.mk x3.vars x3.cons)) fun z31=>
  if (z31.2.2 != 0) then
   some ([],z31.2.2)
  else
   xK (bM x1.size z31.1.vars x4) fun z44=>
   if (!z44) then
    some ([],2)
   else
    xK (aU (Template.mk x1.size x1.rels) (Instance.mk z31.1.vars z31.1.cons) x4) fun z49=>
    if (decide (0≤z49)) then
     some ([],4)
    else
     xK (gT x4 z31.2.1) fun z54=>
     some (z54,0)
end Go.Proofs.YtlommebgedmjdaaGreatDoor
namespace Go.Proofs.YtlommebgedmjdaaGreatDoor
end Go.Proofs.YtlommebgedmjdaaGreatDoor
namespace Go.Proofs.YtlommebgedmjdaaGreatDoor
end Go.Proofs.YtlommebgedmjdaaGreatDoor
namespace Go.Proofs.YtlommebgedmjdaaGreatDoor
end Go.Proofs.YtlommebgedmjdaaGreatDoor
namespace Go.Proofs.YtlommebgedmjdaaGreatDoor
end Go.Proofs.YtlommebgedmjdaaGreatDoor
namespace Go.Proofs.YtlommebgedmjdaaGreatDoor
end Go.Proofs.YtlommebgedmjdaaGreatDoor
namespace Go.Proofs.YtlommebgedmjdaaGreatDoor
end Go.Proofs.YtlommebgedmjdaaGreatDoor
namespace Go.Proofs.YtlommebgedmjdaaGreatDoor
set_option linter.unusedVariables false
set_option linter.unusedSimpArgs false
theorem gL (a lo hi:Int):kI a lo hi=some (decide (lo≤a) && decide (a≤hi)):=by
  unfold kI
  by_cases h:lo≤a
  · simp [h]
  · simp [h]
theorem pO (a lo hi:Int):cH a lo hi=some (decide (lo≤a) && decide (a≤hi)):=gL a lo hi
def okS (s:Int):Bool:=decide (1≤s) && decide (s≤4)
def okV (s a:Int):Bool:=decide (0≤a) && decide (a≤s - 1)
def lD (s:Int) (t:List Int) (ar:Int):Bool:=((t.length:Int)==ar) && t.all (okV s)
theorem yY {s:Int} (h:okS s=true):1≤s∧s≤4:=by simpa [okS] using h
theorem xBj (s:Int):jH s=some (okS s):=by unfold jH;rw[gL];rfl
theorem yP (s:Int):cQ s=some (okS s):=by unfold cQ;rw[gL];rfl
theorem xGu (s:Int):iK s=some (okS s):=by unfold iK;rw[pO];rfl
theorem xDe (s:Int):gM s=some (okS s):=by unfold gM;rw[pO];rfl
theorem ckS {s:Int} (h:okS s=true):ck (s - 1)=some (s - 1):=by have:=yY h;exact kW (by omega) (by omega)
theorem xNw {s:Int} (h:okS s=true) (a:Int):eH s a=some (okV s a):=by
  unfold eH
  rw[ckS h,bnd_s,gL]
  rfl
theorem rR {s:Int} (h:okS s=true) (ar:Int) (t:List Int):bM s ar t=some (lD s t ar):=by
  unfold bM
  rw[dW (fun _ x=>if !okV s x then some false else none) (fun j x hj=>by
    simp only[ckS h,bnd_s,pO]
    show(if (!okV s x)=true then _ else _)=_
    by_cases hv:okV s x=true
    · simp [hv,yW]
    · simp [hv,yW])]
  rw[xAy]
  unfold lD
  by_cases ha:t.all (okV s)=true
  · have:t.any (fun x=>!okV s x)=false:=by simpa using ha
    rw[this,ha]
    simp [xBp]
  · have ha':t.all (okV s)=false:=by simpa using ha
    have:t.any (fun x=>!okV s x)=true:=by simpa using ha'
    rw[this,ha']
    simp [xBp]
theorem xQj (l:List Int) (p:Int→Bool) (f:Int→Option Bool) (hf:∀ x,f x=some (p x)):∃ i,qY l f=some i∧decide (0≤i)=l.any p:=by
  unfold qY
  rw[dW (fun k x=>if p x then some (k:Int) else none) (fun j x hj=>by
    simp only[hf,bnd_s]
    by_cases hv:p x=true
    · simp [hv,yW]
    · simp [hv,yW])]
  have key:∀ (l:List Int) (k:Nat),(l.any p=true∧∃ i:Nat,fnd (fun k x=>if p x then some (k:Int) else none) l k=some (i:Int))∨(l.any p=false∧fnd (fun k x=>if p x then some (k:Int) else none) l k=none):=by
    intro l
    induction l with
    | nil=>intro k;exact .inr ⟨rfl,rfl⟩
    | cons x l ih=>
      intro k
      unfold fnd
      by_cases hv:p x=true
      · exact .inl ⟨by simp [hv],k,by simp [hv]⟩
      · have hv':p x=false:=by simpa using hv
        rcases ih (k+1) with ⟨h1,i,h2⟩ | ⟨h1,h2⟩
        · exact .inl ⟨by simp [h1],i,by simp [hv',h2]⟩
        · exact .inr ⟨by simp [h1,hv'],by simp [hv',h2]⟩
  rcases key l 0 with ⟨h1,i,h2⟩ | ⟨h1,h2⟩
  · rw[h2];exact⟨i,rfl,by simp [h1]⟩
  · rw[h2];exact⟨-1,rfl,by simp [h1]⟩
theorem xBa (l:List Int) (p:Int→Bool) (f:Int→Option Bool) (hf:∀ x,f x=some (p x)):qA l f=some (l.any p):=by
  obtain⟨i,h1,h2⟩:=xQj l p f hf
  unfold qA
  rw[h1,bnd_s,h2]
theorem pA {s:Int} (h:okS s=true) (ar:Int) (t:List Int):vS s t ar=some (lD s t ar):=by
  unfold vS
  rw[xBa t (fun x=>!okV s x) _ (fun x=>by unfold bK;rw[xNw h];rfl)]
  unfold lD
  by_cases hl:((t.length:Int)==ar)=true
  · rw[hl]
    simp
    rw[Bool.eq_iff_iff]
    simp
  · have:((t.length:Int)==ar)=false:=by simpa using hl
    rw[this]
    simp
def rJ (a b:Int):Int:=if a<b then -1 else if b<a then 1 else 0
def cO:List Int→List Int→Int
  | [],[]=>0
  | [],_::_=>-1
  | _::_,[]=>1
  | a::l,b::m=>if rJ a b≠0 then rJ a b else cO l m
theorem xOv (a b:Int):cC a b=some (rJ a b):=by
  unfold cC fX rJ
  by_cases h:a<b
  · simp [h]
  · by_cases h2:b<a<;>simp [h,h2]
theorem pE {a b:Int}:rJ a b=0↔a=b:=by
  unfold rJ
  split
  · constructor<;>omega
  · split<;>constructor<;>omega
theorem yT (l m:List Int):qW l m=some (cO l m):=by
  unfold qW
  suffices H:∀ (l r:List Int) (k:Nat),m.drop k=r→k≤m.length→∀ (n:Int),n=k+l.length →
      vC (oM (σ:=Unit) (ρ:=Int) (fun(k25:Nat) (x27:Int) (s:Unit)=>
        match s with
        | _=>
          if (decide ((m.length:Int)≤(k25:Int))) then
            some (.ret 1)
          else
            xK (ix m (k25:Int)) fun z38=>
            xK (cC x27 z38) fun z45=>
            if (z45 != 0) then
              some (.ret z45)
            else
              some (.go ())) l k ()) (fun _=>if (decide (n<(m.length:Int))) then some (-1) else some 0)=some (cO l r) from H l m 0 (by simp) (by omega) _ (by simp)
  intro l
  induction l with
  | nil=>
    intro r k hr hk n hn;have hl:=congrArg List.length hr;rw[List.length_drop] at hl
    cases r with
    | nil=>
      have:¬ n<(m.length:Int):=by simp at hl hn;omega
      rw[forL_nil',thn_nx,if_neg (by simpa using this)]
      rfl
    | cons b r=>
      have:n<(m.length:Int):=by simp at hl hn;omega
      rw[forL_nil',thn_nx,if_pos (by simpa using this)]
      rfl
  | cons a l ih=>
    intro r k hr hk n hn;have hl:=congrArg List.length hr;rw[List.length_drop] at hl
    cases r with
    | nil=>
      have:(m.length:Int)≤(k:Int):=by simp at hl;omega
      rw[iV (r:=1) (by simp [this])]
      rfl
    | cons b r=>
      have h1:¬ (m.length:Int)≤(k:Int):=by simp at hl;omega
      have h2:m[k]?=some b:=by rw[← List.head?_drop,hr];rfl
      have h3:m.drop (k+1)=r:=by rw[← List.drop_drop,hr];rfl
      unfold cO
      by_cases hc:rJ a b=0
      · rw[qV (s':=()) (by simp [h1,zO h2,xOv,hc])]
        rw[show(if rJ a b≠0 then rJ a b else cO l r)=cO l r from if_neg (by simp [hc])];exact ih r (k+1) h3 (by simp at hl;omega) n (by rw[hn,List.length_cons];push_cast;omega)
      · rw[iV (r:=rJ a b) (by simp [h1,zO h2,xOv,hc])]
        rw[if_pos hc]
        rfl
theorem xQt (l m:List Int) (hlen:l.length=m.length):eV l m=some (decide (cO l m<0)):=by
  unfold eV
  suffices H:∀ (l r:List Int) (k:Nat),m.drop k=r→l.length=r.length →
      vC (oM (σ:=Unit) (ρ:=Bool) (fun(k32:Nat) (x34:Int) (s:Unit)=>
        match s with
        | _=>
          xK (ix m (k32:Int)) fun z44=>
          if (x34 != z44) then
            some (.ret ((decide (x34<z44))))
          else
            some (.go ())) l k ()) (fun _=>some false)=some (decide (cO l r<0)) from H l m 0 (by simp) hlen
  intro l
  induction l with
  | nil=>
    intro r k hr hl
    cases r with
    | nil=>rfl
    | cons b r=>simp at hl
  | cons a l ih=>
    intro r k hr hl
    cases r with
    | nil=>simp at hl
    | cons b r=>
      have h2:m[k]?=some b:=by rw[← List.head?_drop,hr];rfl
      have h3:m.drop (k+1)=r:=by rw[← List.drop_drop,hr];rfl
      unfold cO
      by_cases hc:a=b
      · have hj:=pE.2 hc
        rw[qV (s':=()) (by simp [zO h2,hc])];rw[show(if rJ a b≠0 then rJ a b else cO l r)=cO l r from if_neg (by simp [hj])];exact ih r (k+1) h3 (by simpa using hl)
      · have hj:rJ a b≠0:=fun h=>hc (pE.1 h)
        rw[iV (r:=decide (a<b)) (by simp [zO h2,hc])];rw[if_pos hj]
        unfold rJ
        by_cases hlt:a<b
        · simp [hlt]
        · by_cases hgt:b<a
          · simp [hlt,hgt]
          · omega
theorem xRp (s:Int) (x:Rel) (hN:x.tuples.length≤1048576):∃ b,iX s x=some b∧bP s x=some b∧(b=true→okS s=true∧okS x.arity=true∧(∀ t∈x.tuples,lD s t x.arity=true)∧∀ j t u,x.tuples[j]?=some t→x.tuples[j+1]?=some u→cO t u<0):=by
  unfold iX bP
  simp only[xGu,xBj,xDe,yP,bnd_s]
  by_cases hs:okS s=true
  · by_cases ha:okS x.arity=true
    · simp only[hs,ha,Bool.not_true,Bool.false_eq_true,if_false,thn_nx]
      obtain⟨q,h1,h2,h3,h4⟩:=xLg (ρ:=Bool) (l:=x.tuples) (k:=0) (fun i=>(∀ j t,j<i→x.tuples[j]?=some t→lD s t x.arity=true)∧∀ j t u,j+1<i→x.tuples[j]?=some t→x.tuples[j+1]?=some u→cO t u<0) (fun r=>r=false)
        (f:=fun(k181:Nat) (x183:(List Int)) (s_1:Unit)=>
          vC (σ:=Bool) (
            xK (bM s x.arity x183) fun z284=>
            if (!z284) then   some (.nx true) else   if (decide (0<(k181:Int))) then   xK (ck ((k181:Int) - 1)) fun z296=>
                xK (ix x.tuples z296) fun z298=>
                xK (eV z298 x183) fun z324=>
                some (.nx (!z324)) else   some (.nx false)) fun s262=>
          if s262 then
            some (.ret false)
          else
            some (.go ()))
        (g:=fun(k80:Nat) (x82:(List Int)) (s_1:Unit)=>
          vC (σ:=Bool) (
            xK (vS s x82 x.arity) fun z116=>
            if (!z116) then   some (.nx true) else   if (decide (0<(k80:Int))) then   xK (ck ((k80:Int) - 1)) fun z120=>
                xK (ix x.tuples z120) fun z122=>
                xK (qW z122 x82) fun z132=>
                some (.nx (decide (0≤z132))) else   some (.nx false)) fun s115=>
          if s115 then
            some (.ret false)
          else
            some (.go ()))
        ⟨fun j t hj=>by omega,fun j t u hj=>by omega⟩
        (fun j t hj hii=>by
          rw[Nat.zero_add] at hii ⊢;obtain⟨hi,hs2⟩:=hii;simp only[rR hs,pA hs,bnd_s]
          by_cases hv:lD s t x.arity=true
          · simp only[hv,Bool.not_true,Bool.false_eq_true,if_false]
            have hi2:∀ i u,i<j+1→x.tuples[i]?=some u→lD s u x.arity=true:=fun i u hlt hu=>by
              by_cases hij:i<j
              · exact hi i u hij hu
              · obtain rfl:i=j:=by omega
                rw[hj] at hu;rw[← Option.some.inj hu];exact hv
            by_cases h0:0<j
            · have hjl:j<x.tuples.length:=(List.getElem?_eq_some_iff.1 hj).1
              have hp:x.tuples[j - 1]?=some (x.tuples[j - 1]'(by omega)):=List.getElem?_eq_getElem (by omega);have hpv:=hi (j - 1) _ (by omega) hp;generalize x.tuples[j - 1]'(by omega)=p at hp hpv
              have hlen:p.length=t.length:=by
                unfold lD at hpv hv
                simp at hpv hv
                omega
              have hck:ck ((j:Int) - 1)=some ((j:Int) - 1):=kW (by omega) (by omega);have hx:ix x.tuples ((j:Int) - 1)=some p:=gQ (by omega) (by rw[show((j:Int) - 1).toNat=j - 1 by omega];exact hp)
              have h0':(0:Int)<(j:Int):=by omega
              simp only[h0',decide_true,if_true,hck,hx,bnd_s,xQt p t hlen,yT,thn_nx]
              by_cases hc:cO p t<0
              · have hc2:¬ 0≤cO p t:=by omega
                simp only[hc,hc2,decide_true,decide_false,Bool.not_true,Bool.false_eq_true,if_false];refine⟨none,rfl,rfl,fun _=>⟨hi2,fun i a b hib ha hb=>?_⟩,fun _ h=>nomatch h⟩
                by_cases hij:i+1<j
                · exact hs2 i a b hij ha hb
                · obtain rfl:j=i+1:=by omega
                  rw[show i+1 - 1=i by omega] at hp;rw[hp] at ha;rw[hj] at hb;rw[← Option.some.inj ha,← Option.some.inj hb];exact hc
              · have hc2:0≤cO p t:=by omega
                simp only[hc,hc2,decide_true,decide_false,Bool.not_false,if_true];exact⟨some false,rfl,rfl,(fun h=>nomatch h),fun r h=>(Option.some.inj h).symm⟩
            · have h0':¬ (0:Int)<(j:Int):=by omega
              simp only[h0',decide_false,Bool.false_eq_true,if_false,thn_nx];exact⟨none,rfl,rfl,fun _=>⟨hi2,fun i a b hib=>by omega⟩,fun _ h=>nomatch h⟩
          · have hv':lD s t x.arity=false:=by simpa using hv
            simp only[hv',Bool.not_false,if_true,thn_nx]
            exact⟨some false,rfl,rfl,(fun h=>nomatch h),fun r h=>(Option.some.inj h).symm⟩)
      rw[h1,h2]
      cases q with
      | some r=>exact⟨r,rfl,rfl,fun h=>by rw[h4 r rfl] at h;cases h⟩
      | none=>exact⟨true,rfl,rfl,fun _=>⟨trivial,trivial,(fun t ht=>by
          obtain⟨i,hi,rfl⟩:=List.mem_iff_getElem.1 ht
          exact(h3 rfl).1 i _ (by omega) (List.getElem?_eq_getElem hi)),fun j t u ht hu=>(h3 rfl).2 j t u (by have:=(List.getElem?_eq_some_iff.1 hu).1;omega) ht hu⟩⟩
    · have ha':okS x.arity=false:=by simpa using ha
      simp only[hs,ha',Bool.not_true,Bool.not_false,Bool.false_eq_true,if_false,if_true,thn_nx];exact⟨false,rfl,rfl,fun h=>nomatch h⟩
  · have hs':okS s=false:=by simpa using hs
    simp only[hs',Bool.not_false,if_true,thn_nx];exact⟨false,rfl,rfl,fun h=>nomatch h⟩
theorem oBm (s:Int) (x:Rel) (hN:x.tuples.length≤1048576):∃ b,iX s x=some b∧bP s x=some b∧(b=true→okS s=true∧okS x.arity=true∧∀ t∈x.tuples,lD s t x.arity=true):=by
  obtain⟨b,h1,h2,h3⟩:=xRp s x hN;exact⟨b,h1,h2,fun h=>⟨(h3 h).1,(h3 h).2.1,(h3 h).2.2.1⟩⟩
end Go.Proofs.YtlommebgedmjdaaGreatDoor
namespace Go.Proofs.YtlommebgedmjdaaGreatDoor
set_option linter.unusedVariables false
set_option linter.unusedSimpArgs false
def mV (s:Int) (x:Rel):Bool:=(bP s x).getD false
theorem xOx (s:Int) (x:Rel) (hN:x.tuples.length≤1048576):iX s x=some (mV s x)∧bP s x=some (mV s x)∧(mV s x=true→okS s=true∧okS x.arity=true∧∀ t∈x.tuples,lD s t x.arity=true):=by
  obtain⟨b,h1,h2,h3⟩:=oBm s x hN
  have:mV s x=b:=by unfold mV;rw[h2];rfl
  rw[this];exact⟨h1,h2,h3⟩
theorem xJb (l:List Rel) (p:Rel→Bool) (f:Rel→Option Bool) (hf:∀ x∈l,f x=some (p x)):zJ l f=some (l.any p):=by
  obtain⟨i,h1,h2⟩:=rD l p f hf
  unfold zJ
  rw[show aR l f=some i from h1,bnd_s,h2]
def gU (x:Template):Bool:=okS x.size && (decide ((x.rels.length:Int)≤6) && x.rels.all (mV x.size))
def aI (x:Template):Prop:=∀ r∈x.rels,r.tuples.length≤1048576
theorem eZ (x:Template) (hx:aI x):vR x=some (gU x):=by
  unfold vR
  rw[dW (fun _ r=>if !mV x.size r then some false else none) (fun j r hj=>by
    simp only[(xOx x.size r (hx r (List.mem_of_getElem? hj))).1,bnd_s]
    by_cases hv:mV x.size r=true
    · simp [hv,yW]
    · simp [hv,yW])]
  rw[xAy]
  unfold gU
  by_cases ha:x.rels.all (mV x.size)=true
  · have:x.rels.any (fun r=>!mV x.size r)=false:=by simpa using ha
    rw[this,ha];simp only[xBp,Bool.false_eq_true,if_false,thn_nx,xGu,bnd_s]
    by_cases hs:okS x.size=true
    · simp [hs]
    · have hs':okS x.size=false:=by simpa using hs
      simp [hs']
  · have ha':x.rels.all (mV x.size)=false:=by simpa using ha
    have:x.rels.any (fun r=>!mV x.size r)=true:=by simpa using ha'
    rw[this,ha']
    simp [xBp]
theorem dF (x:Template) (hx:aI x):oJ x=some (gU x):=by
  unfold oJ gU
  rw[xBj,xJb x.rels (fun r=>!mV x.size r) _ (fun r hr=>by
    unfold eB
    rw[show Rel.mk r.arity r.tuples=r from rfl,show(Template.mk x.size x.rels).size=x.size from rfl,(xOx x.size r (hx r hr)).2.1]
    rfl)]
  simp only[bnd_s]
  by_cases hs:okS x.size=true
  · by_cases hl:(x.rels.length:Int)≤6
    · simp only[hs,hl,decide_true,if_true,thn_nx,Bool.true_and]
      congr 1
      rw[Bool.eq_iff_iff]
      simp
    · simp [hs,hl]
  · have hs':okS x.size=false:=by simpa using hs
    simp [hs']
end Go.Proofs.YtlommebgedmjdaaGreatDoor
namespace Go.Proofs.YtlommebgedmjdaaGreatDoor
set_option linter.unusedVariables false
set_option linter.unusedSimpArgs false
theorem xSs {a b:Int}:rJ a b<0↔a<b:=by
  unfold rJ
  split
  · constructor<;>omega
  · split<;>constructor<;>omega
theorem rX {a b:Int} {l m:List Int}:cO (a::l) (b::m)<0↔a<b∨a=b∧cO l m<0:=by
  rw[show cO (a::l) (b::m)=if rJ a b≠0 then rJ a b else cO l m from rfl]
  by_cases h:rJ a b=0
  · rw[if_neg (by simp [h])]
    have:=pE.1 h;subst this
    constructor
    · exact fun h=>.inr ⟨rfl,h⟩
    · rintro (h | ⟨_,h⟩)
      · omega
      · exact h
  · rw[if_pos h,xSs]
    have:a≠b:=fun e=>h (pE.2 e)
    constructor
    · exact .inl
    · rintro (h | ⟨h,_⟩)
      · exact h
      · exact absurd h this
theorem pG:∀ {l m:List Int},cO l m=0↔l=m
  | [],[]=>by simp [cO]
  | [],_::_=>by simp [cO]
  | _::_,[]=>by simp [cO]
  | a::l,b::m=>by
    rw[show cO (a::l) (b::m)=if rJ a b≠0 then rJ a b else cO l m from rfl]
    by_cases h:rJ a b=0
    · rw[if_neg (by simp [h]),pG]
      have:=pE.1 h
      simp [this]
    · rw[if_pos h]
      have:a≠b:=fun e=>h (pE.2 e)
      simp [this,h]
theorem pY:∀ {l m n:List Int},cO l m<0→cO m n<0→cO l n<0
  | [],[],_,h,_=>by simp [cO] at h
  | [],_::_,[],_,h=>by simp [cO] at h
  | [],_::_,_::_,_,_=>by simp [cO]
  | _::_,[],_,h,_=>by simp [cO] at h
  | _::_,_::_,[],_,h=>by simp [cO] at h
  | a::l,b::m,c::n,h1,h2=>by
    rw[rX] at *
    rcases h1 with h1 | ⟨rfl,h1⟩
    · rcases h2 with h2 | ⟨rfl,h2⟩
      · exact .inl (by omega)
      · exact .inl h1
    · rcases h2 with h2 | ⟨rfl,h2⟩
      · exact .inl h2
      · exact .inr ⟨rfl,pY h1 h2⟩
def Asc (l:List (List Int)):Prop:=l.Pairwise fun a b=>cO a b<0
theorem xTd:∀ {l:List (List Int)},(∀ j t u,l[j]?=some t→l[j+1]?=some u→cO t u<0)→Asc l
  | [],_=>List.Pairwise.nil
  | [_],_=>List.pairwise_singleton _ _
  | a::b::l,h=>by
    have ih:Asc (b::l):=xTd (fun j t u ht hu=>h (j+1) t u (by simpa using ht) (by simpa using hu));have hab:cO a b<0:=h 0 a b rfl rfl;refine List.Pairwise.cons (fun c hc=>?_) ih
    rcases List.mem_cons.1 hc with rfl | hc
    · exact hab
    · exact pY hab (List.rel_of_pairwise_cons ih hc)
theorem Asc.lt {l:List (List Int)} (h:Asc l) {i j:Nat} {t u:List Int} (hij:i<j) (ht:l[i]?=some t) (hu:l[j]?=some u):cO t u<0:=by
  obtain⟨hi,rfl⟩:=List.getElem?_eq_some_iff.1 ht;obtain⟨hj,rfl⟩:=List.getElem?_eq_some_iff.1 hu;exact List.pairwise_iff_getElem.1 h i j hi hj hij
theorem Asc.ext:∀ {l m:List (List Int)},Asc l→Asc m→(∀ x,x∈l↔x∈m)→l=m
  | [],[],_,_,_=>rfl
  | [],b::m,_,_,h=>absurd ((h b).2 (by simp)) (by simp)
  | a::l,[],_,_,h=>absurd ((h a).1 (by simp)) (by simp)
  | a::l,b::m,hl,hm,h=>by
    have irr:∀ x:List Int,¬ cO x x<0:=fun x=>by rw[pG.2 rfl];omega
    have hab:a=b:=by
      rcases List.mem_cons.1 ((h a).1 (by simp)) with e | h1
      · exact e
      · rcases List.mem_cons.1 ((h b).2 (by simp)) with e | h2
        · exact e.symm
        · exact absurd (pY (List.rel_of_pairwise_cons hm h1) (List.rel_of_pairwise_cons hl h2)) (irr _)
    subst hab
    congr 1
    refine Asc.ext (List.Pairwise.of_cons hl) (List.Pairwise.of_cons hm) (fun x=>⟨fun hx=>?_,fun hx=>?_⟩)
    · rcases List.mem_cons.1 ((h x).1 (by simp [hx])) with rfl | h1
      · exact absurd (List.rel_of_pairwise_cons hl hx) (irr _)
      · exact h1
    · rcases List.mem_cons.1 ((h x).2 (by simp [hx])) with rfl | h1
      · exact absurd (List.rel_of_pairwise_cons hm hx) (irr _)
      · exact h1
theorem pX (d v:List Int):cU d v=some (decide (d=v)):=by
  unfold cU
  by_cases hl:d.length=v.length
  · rw[if_neg (by simp [hl])]
    rw[dW (ρ:=Bool) (fun k x=>if (v[k]? != some x)=true then some false else none) (fun j x hj=>by
      have hjl:=(List.getElem?_eq_some_iff.1 hj).1
      have hv:v[0+j]?=some (v[j]'(by omega)):=by rw[Nat.zero_add];exact List.getElem?_eq_getElem _
      simp only[zO hv,bnd_s,hv]
      by_cases hx:x=v[j]'(by omega)
      · subst hx;simp [yW]
      · have:(x != v[j]'(by omega))=true:=by simpa using hx
        have h2:(some (v[j]'(by omega)) != some x)=true:=by simpa using fun e=>hx e.symm
        rw[this,h2]
        rfl)]
    have key:∀ (d:List Int) (k:Nat),k+d.length=v.length→fnd (fun k x=>if (v[k]? != some x)=true then some false else none) d k=if d=v.drop k then none else some false:=by
      intro d
      induction d with
      | nil=>
        intro k hk;have:v.drop k=[]:=List.drop_eq_nil_of_le (by simp at hk;omega);rw[this]
        rfl
      | cons x d ih=>
        intro k hk
        have hkl:k<v.length:=by simp at hk;omega
        have hd:v.drop k=v[k]::v.drop (k+1):=List.drop_eq_getElem_cons hkl
        unfold fnd
        rw[hd,List.getElem?_eq_getElem hkl]
        by_cases hx:x=v[k]
        · have e1:(some v[k] != some x)=false:=by rw[hx];simp
          rw[e1,if_neg (by simp),ih (k+1) (by simp at hk;omega),hx];simp only[List.cons.injEq,true_and]
        · have h2:(some v[k] != some x)=true:=by simpa using fun e=>hx e.symm
          rw[h2,if_pos rfl,if_neg (fun e=>hx (List.cons.inj e).1)]
    rw[key d 0 (by omega),List.drop_zero]
    by_cases hd:d=v
    · rw[if_pos hd];simp [xBp,hd]
    · rw[if_neg hd];simp [xBp,hd]
  · rw[if_pos (by simpa using fun e=>hl (by omega))]
    have:d≠v:=fun e=>hl (by rw[e])
    simp [this]
theorem xCt (r:Rel) (t:List Int):cW r t=some (decide (t∈r.tuples)):=by
  unfold cW
  rw[dW (ρ:=Bool) (fun _ x=>if (fun y=>decide (y=t)) x then some true else none) (fun j x hj=>by
    simp only[pX,bnd_s]
    by_cases hx:x=t<;>simp [hx,yW])]
  rw[xAy]
  by_cases h:t∈r.tuples
  · rw[if_pos (by simpa using h)];simp [xBp,h]
  · rw[if_neg (by simpa using h)];simp [xBp,h]
theorem xCa {L:List (List Int)} {t:List Int} (hL:Asc L) (hlen:L.length≤1000000) {f:List Int→List Int→Option Int} (hf:∀ a b,f a b=some (cO a b)):∀ (g lo hi N:Nat),hi - lo≤g→g+1≤N→lo≤hi→hi≤L.length→(∀ i x,i<lo→L[i]?=some x→cO x t<0)→(∀ i x,hi≤i→L[i]?=some x→¬ cO x t<0) →
    ∃ k:Nat,k≤L.length∧(∀ i x,i<k→L[i]?=some x→cO x t<0)∧(∀ i x,k≤i→L[i]?=some x→¬ cO x t<0) ∧
    whl (σ:=Int×Int) (ρ:=Int×Bool) (fun(s:Int×Int)=>
    match s with
    | (s39,s41)=>
    if (decide (s39<s41)) then
     xK (ck (s39+s41)) fun z54=>
     xK (nn z54) fun z56=>
     xK (ix L (z56 / 2)) fun z59=>
     xK (f z59 t) fun z65=>
     if (decide (z65<0)) then
      xK (ck ((z56 / 2)+1)) fun z68=>
      some (.go (z68,s41))
     else
      some (.go (s39,(z56 / 2)))
    else
     some (.brk (s39,s41))) N ((lo:Int),(hi:Int))=some (.nx ((k:Int),(k:Int)))
  | g,lo,hi,N,hg,hN,hlh,hh,h1,h2=>by
    obtain⟨M,rfl⟩:∃ M,N=M+1:=⟨N - 1,by omega⟩
    by_cases hlt:lo<hi
    · cases g with
      | zero=>omega
      | succ g=>
      have hm:(lo+hi) / 2<L.length:=by omega
      have e2:((lo:Int)+(hi:Int)) / 2=(((lo+hi) / 2:Nat):Int):=by omega
      have hx:L[(lo+hi) / 2]?=some L[(lo+hi) / 2]:=List.getElem?_eq_getElem hm
      by_cases hc:cO L[(lo+hi) / 2] t<0
      · obtain⟨k,k1,k2,k3,k4⟩:=xCa hL hlen hf g ((lo+hi) / 2+1) hi M (by omega) (by omega) (by omega) hh (fun i x hi' hix=>by
          rcases Nat.lt_or_ge i ((lo+hi) / 2) with h | h
          · exact pY (hL.lt h hix hx) hc
          · obtain rfl:i=(lo+hi) / 2:=by omega
            rw[hx] at hix;rw[← Option.some.inj hix]
            exact hc) h2
        refine⟨k,k1,k2,k3,?_⟩
        rw[uH (s':=((((lo+hi) / 2+1:Nat):Int),(hi:Int))) (by
          have h3:(lo:Int)<(hi:Int):=by omega
          simp only[h3,decide_true,if_true,kW (x:=(lo:Int)+(hi:Int)) (by omega) (by omega),bnd_s,xTl (x:=(lo:Int)+(hi:Int)) (by omega),e2,zO hx,hf,hc,kW (x:=(((lo+hi) / 2:Nat):Int)+1) (by omega) (by omega)]
          rfl)]
        exact k4
      · obtain⟨k,k1,k2,k3,k4⟩:=xCa hL hlen hf g lo ((lo+hi) / 2) M (by omega) (by omega) (by omega) (by omega) h1 (fun i x hi' hix=>by
          rcases Nat.lt_or_ge ((lo+hi) / 2) i with h | h
          · exact fun h4=>hc (pY (hL.lt h hx hix) h4)
          · obtain rfl:i=(lo+hi) / 2:=by omega
            rw[hx] at hix;rw[← Option.some.inj hix]
            exact hc)
        refine⟨k,k1,k2,k3,?_⟩
        rw[uH (s':=((lo:Int),(((lo+hi) / 2:Nat):Int))) (by
          have h3:(lo:Int)<(hi:Int):=by omega
          simp only[h3,decide_true,if_true,kW (x:=(lo:Int)+(hi:Int)) (by omega) (by omega),bnd_s,xTl (x:=(lo:Int)+(hi:Int)) (by omega),e2,zO hx,hf,hc,decide_false,Bool.false_eq_true,if_false])]
        exact k4
    · obtain rfl:lo=hi:=by omega
      refine⟨lo,hh,h1,h2,?_⟩;rw[wB]
      simp
theorem xKb {N:Nat} {r:Rel} {t:List Int} (hr:Asc r.tuples) (hlen:r.tuples.length≤1000) (hN:1002≤N):cP N r t=some (decide (t∈r.tuples)):=by
  unfold cP qJ
  have hf:∀ a b,iC a b=some (cO a b):=fun a b=>by unfold iC;rw[yT];rfl
  obtain⟨k,k1,k2,k3,k4⟩:=xCa (t:=t) hr (by omega) hf r.tuples.length 0 r.tuples.length N (by omega) (by omega) (by omega) (by omega) (fun i x hi=>absurd hi (by omega)) (fun i x hi hx=>absurd (List.getElem?_eq_some_iff.1 hx).1 (by omega));rw[show((0:Nat):Int)=0 from rfl] at k4;rw[k4,thn_nx]
  by_cases hk:k<r.tuples.length
  · have hx:r.tuples[k]?=some r.tuples[k]:=List.getElem?_eq_getElem hk
    have h1:(k:Int)<(r.tuples.length:Int):=by omega
    simp only[h1,decide_true,if_true,zO hx,bnd_s,hf,thn_nx]
    congr 1
    rw[show(cO r.tuples[k] t==0)=decide (cO r.tuples[k] t=0) from rfl];refine decide_eq_decide.2 ⟨fun h=>?_,fun h=>?_⟩
    · rw[← pG.1 h];exact List.getElem_mem hk
    · obtain⟨j,hj,e⟩:=List.getElem_of_mem h
      have hjx:r.tuples[j]?=some t:=by rw[List.getElem?_eq_getElem hj,e]
      rcases Nat.lt_trichotomy j k with h5 | h5 | h5
      · have:=k2 j t h5 hjx
        rw[pG.2 rfl] at this
        omega
      · subst h5
        rw[e];exact pG.2 rfl
      · exact absurd (hr.lt h5 hx hjx) (k3 k _ (Nat.le_refl _) hx)
  · have h1:¬ (k:Int)<(r.tuples.length:Int):=by omega
    simp only[h1,decide_false,Bool.false_eq_true,if_false,thn_nx,bnd_s]
    have:t ∉ r.tuples:=fun h=>by
      obtain⟨j,hj,e⟩:=List.getElem_of_mem h;have:=k2 j t (by omega) (by rw[List.getElem?_eq_getElem hj,e]);rw[pG.2 rfl] at this
      omega
    simp [this]
def vW (T:Nat):Nat→List (List Int)
  | 0=>[[]]
  | n+1=>(List.range T).flatMap fun(a:Nat)=>(vW T n).map (fun l=>(a:Int)::l)
theorem xFq:∀ T∈[1,2,3,4],∀ n∈[1,2,3,4],rC (T:Nat) (n:Nat)=some ((vW T n).length:Int)∧kL 10 (T:Nat) (n:Nat)=some ((vW T n).length:Int)∧(vW T n).length≤256∧(List.range (vW T n).length).map (fun(k:Nat)=>aX 10 (T:Nat) (n:Nat) (k:Int))=(vW T n).map some:=by decide +kernel
theorem iP {T:Nat}:∀ {n:Nat} {l:List Int},l∈vW T n↔l.length=n∧∀ a∈l,0≤a∧a<T
  | 0,l=>by
    unfold vW
    constructor
    · intro h;simp at h;subst h;simp
    · intro h
      have:=List.length_eq_zero_iff.1 h.1
      simp [this]
  | n+1,l=>by
    unfold vW
    rw[List.mem_flatMap]
    constructor
    · rintro ⟨a,ha,h⟩
      obtain⟨m,hm,rfl⟩:=List.mem_map.1 h;obtain⟨h1,h2⟩:=iP.1 hm;rw[List.mem_range] at ha;refine⟨by simp [h1],fun b hb=>?_⟩
      rcases List.mem_cons.1 hb with rfl | hb
      · exact⟨by omega,by omega⟩
      · exact h2 b hb
    · rintro ⟨h1,h2⟩
      cases l with
      | nil=>simp at h1
      | cons a l=>
        obtain⟨h3,h4⟩:=h2 a (by simp);refine⟨a.toNat,List.mem_range.2 (by omega),List.mem_map.2 ⟨l,iP.2 ⟨by simpa using h1,fun b hb=>h2 b (by simp [hb])⟩,?_⟩⟩;rw[Int.toNat_of_nonneg h3]
theorem xAb (T:Nat):∀ n,Asc (vW T n)
  | 0=>List.pairwise_singleton _ _
  | n+1=>by
    unfold vW Asc
    rw[List.pairwise_flatMap];refine⟨fun a _=>?_,?_⟩
    · rw[List.pairwise_map]
      exact(xAb T n).imp (fun h=>rX.2 (.inr ⟨rfl,h⟩))
    · refine(List.pairwise_lt_range (n:=T)).imp (fun {a b} hab x hx y hy=>?_)
      obtain⟨m,_,rfl⟩:=List.mem_map.1 hx;obtain⟨m',_,rfl⟩:=List.mem_map.1 hy;exact rX.2 (.inl (by omega))
end Go.Proofs.YtlommebgedmjdaaGreatDoor
namespace Go.Proofs.YtlommebgedmjdaaGreatDoor
set_option linter.unusedVariables false
set_option linter.unusedSimpArgs false
def ctlF {σ ρ:Type} (s:σ):Option ρ→Ctl σ ρ
  | none=>.go s
  | some r=>.ret r
def outF {σ ρ:Type} (s:σ):Option ρ→Out σ ρ
  | none=>.nx s
  | some r=>.ret r
theorem pH {σ ρ:Type} {b:Nat→σ→Option (Ctl σ ρ)} {s:σ} (q:Nat→Option ρ):∀ {m k:Nat},(∀ j,k≤j→j<k+m→b j s=some (ctlF s (q j)))→aY b m k s=some (outF s ((List.range' k m).findSome? q))
  | 0,k,_=>rfl
  | m+1,k,h=>by
    have h1:=h k (Nat.le_refl _) (by omega);have ih:=pH (b:=b) (s:=s) q (m:=m) (k:=k+1) (fun j h2 h3=>h j (by omega) (by omega));rw[List.range'_succ,List.findSome?_cons]
    cases hq:q k with
    | none=>rw[hq] at h1;rw[fL h1];exact ih
    | some r=>rw[hq] at h1;rw[xOa h1];rfl
theorem uG {α:Type} {b:Nat→α→Unit→Option (Ctl Unit Bool)} (p:α→Bool) {l:List α} (h:∀ j x,l[j]?=some x→b j x ()=some (if p x then .go () else .ret false)) :
    vC (oM b l 0 ()) (fun _=>some true)=some (l.all p):=by
  rw[dW (ρ:=Bool) (fun _ x=>if (fun y=>!p y) x then some false else none) (fun j x hj=>by
    rw[Nat.zero_add,h j x hj]
    cases hp:p x<;>simp [hp,yW]),xAy]
  by_cases hp:l.all p=true
  · have:l.any (fun y=>!p y)=false:=by
      rw[List.any_eq_false];intro x hx
      simp [List.all_eq_true.1 hp x hx]
    rw[this,hp]
    rfl
  · have h2:l.all p=false:=by simpa using hp
    have:l.any (fun y=>!p y)=true:=by
      rw[← List.not_all_eq_any_not,h2]
      rfl
    rw[this,h2]
    rfl
def aL (vs args:List Int):List Int:=args.map fun i=>vs.getD i.toNat 0
theorem xPg {ρ:Type} (vs:List Int):∀ (args:List Int) (k:Nat) (s:List Int),(∀ i∈args,0≤i∧i<vs.length)→s.length+args.length≤1000000 →
    oM (σ:=(List Int)) (ρ:=ρ) (fun(k44:Nat) (x46:Int) (s38:(List Int))=>
   xK (ix vs x46) fun z54=>
   xK (ap s38 ([z54])) fun z61=>
   some (.go z61)) args k s=some (.nx (s++aL vs args))
  | [],_,s,_,_=>by simp [aL,oM]
  | i::args,k,s,h,hs=>by
    obtain⟨h0,h1⟩:=h i (by simp)
    have hx:vs[i.toNat]?=some (vs.getD i.toNat 0):=by
      rw[List.getD_eq_getElem?_getD,List.getElem?_eq_getElem (by omega)]
      rfl
    rw[List.length_cons] at hs
    rw[qV (s':=s++[vs.getD i.toNat 0]) (by
      simp only[gQ h0 hx,bnd_s,zD (l:=s) (m:=[vs.getD i.toNat 0]) (by simp only[List.length_cons,List.length_nil];omega)])]
    rw[xPg vs args (k+1) _ (fun j hj=>h j (by simp [hj])) (by rw[List.length_append,List.length_singleton];omega)]
    simp [aL]
theorem lG {vs args:List Int} (h:∀ i∈args,0≤i∧i<vs.length) (hl:args.length≤1000):gT vs args=some (aL vs args):=by
  unfold gT
  rw[xPg vs args 0 [] h (by simp only[List.length_nil];omega),thn_nx,List.nil_append]
theorem xBi {vs args:List Int} (h:∀ i∈args,0≤i∧i<vs.length) (hl:args.length≤1000):dY vs args=some (aL vs args):=lG h hl
def xNr (T:Nat) (r:Rel):Prop:=∃ n:Nat,r.arity=n∧1≤n∧n≤4∧Asc r.tuples∧∀ t∈r.tuples,t∈vW T n
theorem xSw {T:Nat} {r:Rel} {n:Nat} (h:Asc r.tuples) (hm:∀ t∈r.tuples,t∈vW T n):r.tuples=(vW T n).filter fun t=>decide (t∈r.tuples):=
  Asc.ext h ((xAb T n).filter _) (fun x=>⟨fun hx=>List.mem_filter.2 ⟨hm x hx,by simpa using hx⟩,fun hx=>by simpa using (List.mem_filter.1 hx).2⟩)
theorem rA {T n:Nat} (hT:1≤T∧T≤4) (hn:1≤n∧n≤4):(vW T n).length≤256:=(xFq T (by simp;omega) n (by simp;omega)).2.2.1
theorem xNr.len {T:Nat} {r:Rel} (hT:1≤T∧T≤4) (h:xNr T r):r.tuples.length≤256:=by
  obtain⟨n,_,h1,h2,h3,h4⟩:=h;rw[xSw h3 h4];exact Nat.le_trans (List.length_filter_le _ _) (rA hT ⟨h1,h2⟩)
structure TV (T:Nat) (u:Template):Prop where
  s:u.size=T
  t:1≤T∧T≤4
  r:∀ r∈u.rels,xNr T r
  n:u.rels.length≤6
def AV (u:Template) (n:Nat) (a:Atom):Prop:=(∀ i∈a.args,0≤i∧i<n)∧((a.rel= -1∧a.args.length=2)∨∃ r:Rel,0≤a.rel∧u.rels[a.rel.toNat]?=some r∧r∈u.rels∧(a.args.length:Int)=r.arity)
theorem AV.len {T:Nat} {u:Template} {n:Nat} {a:Atom} (hu:TV T u) (h:AV u n a):1≤a.args.length∧a.args.length≤4:=by
  rcases h.2 with ⟨_,h⟩ | ⟨r,_,_,h1,h2⟩
  · omega
  · obtain⟨m,e,h3,h4,_⟩:=hu.r r h1
    omega
def cY (u:Template) (a:Atom) (vs:List Int):Bool:=if a.rel= -1 then decide ((aL vs a.args).getD 0 0=(aL vs a.args).getD 1 0) else decide (aL vs a.args∈(u.rels.getD a.rel.toNat default).tuples)
theorem xMs {T N:Nat} {u:Template} {n:Nat} {a:Atom} {vs:List Int} (hu:TV T u) (h:AV u n a) (hv:∀ i∈a.args,i<vs.length) (hN:1002≤N):lK u a vs=some (cY u a vs)∧aT N u a vs=some (cY u a vs):=by
  have hl:=h.len hu;have h1:=lG (vs:=vs) (fun i hi=>⟨(h.1 i hi).1,hv i hi⟩) (by omega);have h2:=xBi (vs:=vs) (fun i hi=>⟨(h.1 i hi).1,hv i hi⟩) (by omega)
  unfold lK aT cY
  rw[h1,bnd_s,h2,bnd_s]
  rcases h.2 with ⟨e,hl2⟩ | ⟨r,h0,hr,hm,ha⟩
  · have hlen:(aL vs a.args).length=2:=by rw[aL,List.length_map,hl2]
    obtain⟨x,y,e2⟩:∃ x y,aL vs a.args=[x,y]:=by
      match h:aL vs a.args,hlen with
      | [x,y],_=>exact⟨x,y,rfl⟩
    rw[e2,e]
    have hb:(x==y)=decide (x=y):=by by_cases hxy:x=y<;>simp [hxy]
    simp [ix,hb]
  · have hne:(a.rel == -1)=false:=by rw[beq_eq_false_iff_ne];omega
    have hne':¬ a.rel= -1:=by omega
    obtain⟨m,_,_,_,hasc,_⟩:=hu.r r hm
    have hg:u.rels.getD a.rel.toNat default=r:=by rw[List.getD_eq_getElem?_getD,hr];rfl
    simp only[hne,Bool.false_eq_true,if_false,if_neg hne'];rw[gQ h0 hr,bnd_s,bnd_s,xCt,bnd_s,xKb hasc (by have:=(hu.r r hm).len hu.t;omega) hN,bnd_s,hg];exact⟨rfl,rfl⟩
def mx (l:List Int):Int:=l.foldl (fun s x=>if x<s then s else x) 0
theorem xOp {l:List Int}:∀ {s:Int},(s≤l.foldl (fun s x=>if x<s then s else x) s)∧∀ x∈l,x≤l.foldl (fun s x=>if x<s then s else x) s:=by
  induction l with
  | nil=>intro s;exact⟨Int.le_refl _,by simp⟩
  | cons y l ih=>
    intro s;rw[List.foldl_cons];obtain⟨h1,h2⟩:=ih (s:=if y<s then s else y)
    have hs:s≤(if y<s then s else y)∧y≤(if y<s then s else y):=by split<;>omega
    refine⟨Int.le_trans hs.1 h1,fun x hx=>?_⟩
    rcases List.mem_cons.1 hx with rfl | hx
    · exact Int.le_trans hs.2 h1
    · exact h2 x hx
theorem xYh {l:List Int}:∀ {s:Int},l.foldl (fun s x=>if x<s then s else x) s=s∨l.foldl (fun s x=>if x<s then s else x) s∈l:=by
  induction l with
  | nil=>intro s;exact .inl rfl
  | cons y l ih=>
    intro s;rw[List.foldl_cons]
    rcases ih (s:=if y<s then s else y) with h | h
    · rw[h]
      split
      · exact .inl rfl
      · exact .inr (by simp)
    · exact .inr (by simp [h])
theorem xXl {l:List Int} {n:Int} (h:∀ i∈l,0≤i∧i<n) (hn:0<n):0≤mx l∧mx l<n:=by
  refine⟨xOp.1,?_⟩
  rcases xYh (l:=l) (s:=0) with e | e
  · unfold mx;rw[e];exact hn
  · exact(h _ e).2
theorem xFl {ρ : Type} : ∀ (l : List Int) (k : Nat) (s : Int), oM (σ := Int) (ρ := ρ) (fun (k205 : Nat) (x207 : Int) (s201 : Int) =>
      xK (bT s201 x207) fun z235=>
      some (.go z235)) l k s=some (.nx (l.foldl (fun s x=>if x<s then s else x) s))
  | [],_,_=>rfl
  | x::l,k,s=>by
    rw[qV (s':=if x<s then s else x) (by
      unfold bT
      by_cases h:x<s<;>simp [h]),xFl l]
    rfl
theorem xMp {ρ:Type} (x0:Int) (L:List Int):∀ (l:List Int) (k:Nat) (s:Int),L.drop k=l→aY (σ:=Int) (ρ:=ρ) (fun(k41:Nat) (s37:Int)=>
   xK (ix (x0::L) (1+(k41:Int))) fun z48=>
   some (.go (if s37<z48 then z48 else s37))) l.length k s=some (.nx (l.foldl (fun s x=>if x<s then s else x) s))
  | [],_,_,_=>rfl
  | x::l,k,s,h=>by
    have hx:(x0::L)[1+k]?=some x:=by
      rw[Nat.add_comm,List.getElem?_cons_succ,← List.head?_drop,h]
      rfl
    have e:(1:Int)+(k:Int)=((1+k:Nat):Int):=by omega
    rw[List.length_cons,fL (s':=if x<s then s else x) (by
      rw[e,zO hx,bnd_s]
      by_cases h1:x<s
      · rw[if_neg (by omega),if_pos h1]
      · rw[if_neg h1]
        by_cases h2:s<x
        · rw[if_pos h2]
        · rw[if_neg h2,show s=x by omega]),xMp x0 L l (k+1) _ (by rw[← List.drop_drop,h];rfl)]
    rfl
theorem xYl {l:List Int} (h:∀ i∈l,0≤i) (hl:1≤l.length):zT l=some (mx l):=by
  cases l with
  | nil=>simp at hl
  | cons x l=>
    unfold zT
    have h1:¬ (((x::l).length:Nat):Int)<1:=by simp;omega
    have h2:((((x::l).length:Nat):Int) - 1).toNat=l.length:=by simp
    rw[if_neg (by simpa using h1),thn_nx,show ix (x::l) 0=some x from rfl,bnd_s,h2,xMp x l l 0 x rfl,thn_nx]
    unfold mx
    rw[List.foldl_cons];have:=h x (by simp)
    by_cases h3:x<0
    · omega
    · rw[if_neg h3]
end Go.Proofs.YtlommebgedmjdaaGreatDoor
namespace Go.Proofs.YtlommebgedmjdaaGreatDoor
set_option linter.unusedVariables false
set_option linter.unusedSimpArgs false
structure FV (u:Template) (f:Formula):Prop where
  f0:1≤f.free∧f.free≤4
  v0:f.free≤f.vars∧f.vars≤8
  n:f.atoms.length≤16
  a:∀ a∈f.atoms,AV u f.vars.toNat a
structure FX (u:Template) (f:Formula):Prop where
  f0:1≤f.free∧f.free≤10
  v0:f.free≤f.vars∧f.vars≤10
  n:f.atoms.length≤24
  a:∀ a∈f.atoms,AV u f.vars.toNat a
theorem FV.x {u:Template} {f:Formula} (h:FV u f):FX u f:=⟨by have:=h.f0;omega,by have:=h.v0;omega,by have:=h.n;omega,h.a⟩
def vA (u:Template) (f:Formula) (vs:List Int):Bool:=f.atoms.all fun a=>!decide (mx a.args=(vs.length:Int) - 1) || cY u a vs
theorem AV.below {u:Template} {n:Nat} {a:Atom} {vs:List Int} (h:AV u n a) (hm:mx a.args=(vs.length:Int) - 1):∀ i∈a.args,i<vs.length:=fun i hi=>by
  have:=(xOp (l:=a.args) (s:=0)).2 i hi
  unfold mx at hm
  omega
theorem xOn {T:Nat} {u:Template} {f:Formula} {vs:List Int} (hu:TV T u) (hf:FX u f) (hl:1≤vs.length∧vs.length≤1000):eF u f vs=some (vA u f vs):=by
  unfold eF
  rw[kW (by omega) (by omega),bnd_s]
  rw[uG (fun a=>!decide (mx a.args=(vs.length:Int) - 1) || cY u a vs) (fun j a ha=>by
    have hm:=hf.a a (List.mem_of_getElem? ha);simp only;rw[xFl,thn_nx]
    change vC (if (mx a.args==(vs.length:Int) - 1) then _ else _) _=_
    by_cases h:mx a.args=(vs.length:Int) - 1
    · have h1:(mx a.args==(vs.length:Int) - 1)=true:=by simpa using h
      rw[h1,if_pos rfl,(xMs (N:=1002) hu hm (hm.below h) (Nat.le_refl _)).1,bnd_s,thn_nx,decide_eq_true h]
      cases cY u a vs<;>rfl
    · have h1:(mx a.args==(vs.length:Int) - 1)=false:=by simpa using h
      rw[h1,if_neg (by simp),thn_nx,decide_eq_false h]
      rfl)]
  rfl
def xEq (V:Nat) (atoms:List Atom):List (List Atom):=(List.range V).map fun(j:Nat)=>atoms.filter fun a=>decide (mx a.args=(j:Int))
theorem xLs {ρ:Type} {u:Template} {V:Nat} {T:Nat} (hu:TV T u) (hV:1≤V):∀ (l p:List Atom) (k:Nat),(∀ a∈l,AV u V a)→p.length+l.length≤100 →
    oM (σ:=List (List Atom)) (ρ:=ρ) (fun(k:Nat) (a:Atom) (s:List (List Atom))=>
   xK (zT a.args) fun m=>
   xK (ix s m) fun y=>
   xK (ap y [a]) fun u=>
   some (.go (s.set m.toNat u))) l k (xEq V p)=some (.nx (xEq V (p++l)))
  | [],p,_,_,_=>by simp [oM]
  | a::l,p,k,h,hl=>by
    have ha:=h a (by simp);have hal:=ha.len hu;have hm:=xXl ha.1 (by omega);rw[List.length_cons] at hl
    have hlt:(mx a.args).toNat<V:=by omega
    have hy:(xEq V p)[(mx a.args).toNat]?=some (p.filter fun b=>decide (mx b.args=mx a.args)):=by
      unfold xEq
      rw[List.getElem?_map,List.getElem?_range hlt,Option.map_some,Int.toNat_of_nonneg hm.1]
    have hyl:(p.filter fun b=>decide (mx b.args=mx a.args)).length≤p.length:=List.length_filter_le _ _
    rw[qV (s':=xEq V (p++[a])) (by
      rw[xYl (fun i hi=>(ha.1 i hi).1) hal.1,bnd_s,gQ hm.1 hy,bnd_s,zD (by simp only[List.length_cons,List.length_nil];omega),bnd_s]
      congr 2
      apply List.ext_getElem?
      intro j
      unfold xEq
      by_cases hj:j<V
      · rw[List.getElem?_set]
        by_cases e:(mx a.args).toNat=j
        · rw[if_pos e,if_pos (by simpa using hlt),List.getElem?_map,List.getElem?_range hj,Option.map_some]
          have e2:mx a.args=(j:Int):=by omega
          rw[List.filter_append,List.filter_cons,if_pos (by simpa using e2),e2]
          rfl
        · rw[if_neg e,List.getElem?_map,List.getElem?_map,List.getElem?_range hj,Option.map_some,Option.map_some]
          have e2:¬ mx a.args=(j:Int):=by omega
          rw[List.filter_append,List.filter_cons,if_neg (by simpa using e2),List.filter_nil,List.append_nil]
      · rw[List.getElem?_eq_none (by simp;omega),List.getElem?_eq_none (by simp;omega)])]
    rw[xLs hu hV l (p++[a]) (k+1) (fun b hb=>h b (by simp [hb])) (by rw[List.length_append,List.length_singleton];omega)]
    simp
def xGd (u:Template) (f:Formula):solver:=⟨u,f.vars,xEq f.vars.toNat f.atoms⟩
theorem xDf {T:Nat} {u:Template} {f:Formula} (hu:TV T u) (hf:FX u f):bR u f.vars f.atoms=some (xGd u f):=by
  have h1:=hf.f0;have h2:=hf.v0
  unfold bR
  have hz:mkz ([]:List Atom) f.vars=some (xEq f.vars.toNat []):=by
    unfold mkz
    rw[if_pos ⟨by omega,by omega⟩]
    congr 1
    unfold xEq
    apply List.ext_getElem?
    intro j
    by_cases hj:j<f.vars.toNat
    · rw[List.getElem?_map,List.getElem?_range hj,List.getElem?_replicate,if_pos hj]
      rfl
    · rw[List.getElem?_eq_none (by simp;omega),List.getElem?_eq_none (by simp;omega)]
  rw[hz,bnd_s,xLs hu (by omega) f.atoms [] 0 hf.a (by have:=hf.n;simp only[List.length_nil];omega),thn_nx]
  rfl
theorem xAi (l:List Atom) (p:Atom→Bool) (f:Atom→Option Bool) (hf:∀ x∈l,f x=some (p x)):xX l f=some (l.any p):=by
  obtain⟨i,h1,h2⟩:=rD l p f hf
  unfold xX zS
  rw[h1,bnd_s,h2]
theorem xPb {T N:Nat} {u:Template} {f:Formula} {vs:List Int} (hu:TV T u) (hf:FX u f) (hN:1002≤N) (hl:1≤vs.length∧(vs.length:Int)≤f.vars):bG N (xGd u f) vs=some (vA u f vs):=by
  have h2:=hf.v0
  have e:(vs.length:Int) - 1=((vs.length - 1:Nat):Int):=by omega
  have hd:(xGd u f).due[vs.length - 1]?=some (f.atoms.filter fun a=>decide (mx a.args=((vs.length - 1:Nat):Int))):=by
    show(xEq f.vars.toNat f.atoms)[vs.length - 1]?=_
    unfold xEq
    rw[List.getElem?_map,List.getElem?_range (by omega)]
    rfl
  unfold bG
  rw[kW (by omega) (by omega),bnd_s,e,zO hd,bnd_s]
  rw[xAi _ (fun a=>!cY u a vs) _ (fun a ha=>by
    obtain⟨h3,h4⟩:=List.mem_filter.1 ha
    have h5:mx a.args=((vs.length - 1:Nat):Int):=by simpa using h4
    have hm:=hf.a a h3
    unfold fR
    have:=(xMs hu hm (vs:=vs) (hm.below (h5.trans e.symm)) hN).2
    change xK (aT N u a vs) _=_
    rw[this,bnd_s]),bnd_s]
  unfold vA
  rw[e]
  congr 1
  induction f.atoms with
  | nil=>rfl
  | cons a l ih=>
    by_cases h:mx a.args=((vs.length - 1:Nat):Int)
    · rw[List.filter_cons,if_pos (by simpa using h),List.any_cons,List.all_cons,← ih,decide_eq_true h]
      cases cY u a vs<;>simp
    · rw[List.filter_cons,if_neg (by simpa using h),List.all_cons,← ih,decide_eq_false h]
      simp
def bB (u:Template) (f:Formula):Nat→List Int→Option (List Int)
  | 0,vs=>some vs
  | d+1,vs=>(List.range' 0 u.size.toNat).findSome? fun(a:Nat)=>if vA u f (vs++[(a:Int)]) then bB u f d (vs++[(a:Int)]) else none
theorem xIa {T:Nat} {u:Template} {f:Formula} (hu:TV T u) (hf:FX u f):∀ (d N:Nat) (vs:List Int),(vs.length:Int)+d=f.vars→d+1≤N→kX N u f vs=some ((bB u f d vs).getD [],(bB u f d vs).isSome)
  | 0,N,vs,hd,hN=>by
    obtain⟨M,rfl⟩:∃ M,N=M+1:=⟨N - 1,by omega⟩;rw[kX,if_pos (by simp;omega)]
    rfl
  | d+1,N,vs,hd,hN=>by
    obtain⟨M,rfl⟩:∃ M,N=M+1:=⟨N - 1,by omega⟩;have h2:=hf.v0;have ih:=xIa hu hf d M;rw[kX,if_neg (by simp;omega)]
    have hq:=pH (σ:=Unit) (ρ:=List Int×Bool) (s:=()) (k:=0) (m:=u.size.toNat) (b:=fun(k56:Nat) (s:Unit)=>
      match s with
      | _=>
      xK (qE vs) fun z65=>
      xK (ap z65 ([(k56:Int)])) fun z72=>
      xK (eF u f z72) fun z76=>
      if (!z76) then
       some (.go ())
      else
       xK (kX M u f z72) fun z86=>
       if z86.2 then
        some (.ret (z86.1,true))
       else
        some (.go ())) (fun(a:Nat)=>(if vA u f (vs++[(a:Int)]) then bB u f d (vs++[(a:Int)]) else none).map fun o=>(o,true)) (fun a _ _=>by
      simp only
      unfold qE
      rw[zD (by simp only[List.length_nil];omega),bnd_s,bnd_s,zD (by simp only[List.length_append,List.length_cons,List.length_nil];omega),bnd_s,List.nil_append]
      have hl:(vs++[(a:Int)]).length=vs.length+1:=by simp
      rw[xOn hu hf (by rw[hl];omega),bnd_s]
      by_cases hs:vA u f (vs++[(a:Int)])=true
      · rw[hs,if_neg (by simp),if_pos rfl,ih _ (by rw[hl];push_cast;omega) (by omega),bnd_s]
        cases bB u f d (vs++[(a:Int)])<;>rfl
      · have hs':vA u f (vs++[(a:Int)])=false:=by simpa using hs
        rw[hs',if_pos (by rfl),if_neg (by simp)]
        rfl)
    rw[hq]
    have hmap:∀ (l:List Nat),l.findSome? (fun(a:Nat)=>(if vA u f (vs++[(a:Int)]) then bB u f d (vs++[(a:Int)]) else none).map fun o=>(o,true))=(l.findSome? (fun(a:Nat)=>if vA u f (vs++[(a:Int)]) then bB u f d (vs++[(a:Int)]) else none)).map fun o=>(o,true):=fun l=>by
      induction l with
      | nil=>rfl
      | cons a l ih2=>
        rw[List.findSome?_cons,List.findSome?_cons,ih2]
        cases (if vA u f (vs++[(a:Int)]) then bB u f d (vs++[(a:Int)]) else none)<;>rfl
    rw[hmap];rw[show bB u f (d+1) vs=(List.range' 0 u.size.toNat).findSome? (fun(a:Nat)=>if vA u f (vs++[(a:Int)]) then bB u f d (vs++[(a:Int)]) else none) from rfl]
    cases (List.range' 0 u.size.toNat).findSome? (fun(a:Nat)=>if vA u f (vs++[(a:Int)]) then bB u f d (vs++[(a:Int)]) else none)<;>rfl
theorem walk_eq {T:Nat} {u:Template} {f:Formula} (hu:TV T u) (hf:FX u f):∀ (d N:Nat) (vs st:List Int),(vs.length:Int)+d=f.vars→d+1003≤N→dX (fun a _=>some (false,a)) N (xGd u f) vs st=some (!(bB u f d vs).isSome,(bB u f d vs).getD st)
  | 0,N,vs,st,hd,hN=>by
    obtain⟨M,rfl⟩:∃ M,N=M+1:=⟨N - 1,by omega⟩;have h2:=hf.v0;rw[dX,if_pos (by show((vs.length:Int)==f.vars)=true;simp;omega)]
    unfold oD
    rw[zD (by simp only[List.length_nil];omega),bnd_s,bnd_s,List.nil_append]
    rfl
  | d+1,N,vs,st,hd,hN=>by
    obtain⟨M,rfl⟩:∃ M,N=M+1:=⟨N - 1,by omega⟩;have h2:=hf.v0;have ih:=walk_eq hu hf d M;rw[dX,if_neg (by show ¬ ((vs.length:Int)==f.vars)=true;simp;omega)]
    have hq:=pH (σ:=List Int) (ρ:=Bool×List Int) (s:=st) (k:=0) (m:=u.size.toNat) (b:=fun(k60:Nat) (s:List Int)=>
      xK (kP vs) fun z66=>
      xK (ap z66 ([(k60:Int)])) fun z73=>
      xK (bG M (xGd u f) z73) fun z86=>
      if z86 then xK (dX (fun a _=>some (false,a)) M (xGd u f) z73 s) fun z89=>
        if z89.1 then some (.go z89.2) else some (.ret (false,z89.2))
      else some (.go s)) (fun(a:Nat)=>(if vA u f (vs++[(a:Int)]) then bB u f d (vs++[(a:Int)]) else none).map fun o=>(false,o)) (fun a _ _=>by
      unfold kP
      rw[bnd_s,zD (by simp only[List.length_cons,List.length_nil];omega),bnd_s]
      have hl:(vs++[(a:Int)]).length=vs.length+1:=by simp
      rw[xPb hu hf (by omega) (by rw[hl];omega),bnd_s]
      by_cases hs:vA u f (vs++[(a:Int)])=true
      · rw[hs,if_pos rfl,if_pos rfl,ih _ _ (by rw[hl];push_cast;omega) (by omega),bnd_s]
        cases bB u f d (vs++[(a:Int)])<;>rfl
      · have hs':vA u f (vs++[(a:Int)])=false:=by simpa using hs
        rw[hs',if_neg (by simp),if_neg (by simp)]
        rfl)
    show vC (aY _ u.size.toNat 0 st) _=_
    rw[hq]
    have hmap:∀ (l:List Nat),l.findSome? (fun(a:Nat)=>(if vA u f (vs++[(a:Int)]) then bB u f d (vs++[(a:Int)]) else none).map fun o=>(false,o))=(l.findSome? (fun(a:Nat)=>if vA u f (vs++[(a:Int)]) then bB u f d (vs++[(a:Int)]) else none)).map fun o=>(false,o):=fun l=>by
      induction l with
      | nil=>rfl
      | cons a l ih2=>
        rw[List.findSome?_cons,List.findSome?_cons,ih2]
        cases (if vA u f (vs++[(a:Int)]) then bB u f d (vs++[(a:Int)]) else none)<;>rfl
    rw[hmap];rw[show bB u f (d+1) vs=(List.range' 0 u.size.toNat).findSome? (fun(a:Nat)=>if vA u f (vs++[(a:Int)]) then bB u f d (vs++[(a:Int)]) else none) from rfl]
    cases (List.range' 0 u.size.toNat).findSome? (fun(a:Nat)=>if vA u f (vs++[(a:Int)]) then bB u f d (vs++[(a:Int)]) else none)<;>rfl
def xTe (u:Template) (f:Formula) (tp:List Int):Bool:=(List.range' 1 tp.length).all fun n=>vA u f (tp.take n)
def wL (u:Template) (f:Formula) (tp:List Int):Option (List Int):=if xTe u f tp then bB u f (f.vars.toNat - tp.length) tp else none
theorem xJg {tp:List Int} {n:Nat} (h:n≤tp.length):sl tp 0 (n:Int)=some (tp.take n):=by
  unfold sl
  rw[if_pos ⟨by omega,by omega,by omega⟩]
  simp
theorem xLe {T:Nat} {u:Template} {f:Formula} (hu:TV T u) (hf:FX u f) {tp:List Int} (hl:(tp.length:Int)≤f.vars):∀ (m n N:Nat),1≤n→n+m=tp.length+1→m+1≤N →
    whl (σ:=Int) (ρ:=(List Int)×Bool) (fun(s32:Int)=>
   if (decide (s32≤(tp.length:Int))) then
    xK (sl tp 0 s32) fun z44=>
    xK (eF u f z44) fun z48=>
    if (!z48) then
     some (.ret ([],false))
    else
     xK (ck (s32+1)) fun z53=>
     some (.go z53)
   else
    some (.brk s32)) N (n:Int)=some (if (List.range' n m).all (fun n=>vA u f (tp.take n)) then .nx ((tp.length:Int)+1) else .ret ([],false))
  | 0,n,N,h1,h2,h3=>by
    obtain⟨M,rfl⟩:∃ M,N=M+1:=⟨N - 1,by omega⟩;rw[wB (s':=(n:Int)) (by rw[if_neg (by simp;omega)])]
    have:(n:Int)=(tp.length:Int)+1:=by omega
    rw[this]
    rfl
  | m+1,n,N,h1,h2,h3=>by
    obtain⟨M,rfl⟩:∃ M,N=M+1:=⟨N - 1,by omega⟩;have hv:=hf.v0;have hsl:=xJg (tp:=tp) (n:=n) (by omega)
    have hlen:(tp.take n).length=n:=by rw[List.length_take];omega
    have hs:=xOn hu hf (vs:=tp.take n) (by rw[hlen];omega);rw[List.range'_succ,List.all_cons]
    by_cases h:vA u f (tp.take n)=true
    · rw[uH (s':=((n+1:Nat):Int)) (by
        rw[if_pos (by simp;omega),hsl,bnd_s,hs,bnd_s,h,if_neg (by simp),kW (by omega) (by omega),bnd_s]
        rfl),xLe hu hf hl m (n+1) M (by omega) (by omega) (by omega),h,Bool.true_and]
    · have h':vA u f (tp.take n)=false:=by simpa using h
      rw[xYm (r:=([],false)) (by rw[if_pos (by simp;omega),hsl,bnd_s,hs,bnd_s,h',if_pos (by rfl)]),h',Bool.false_and,if_neg (by simp)]
theorem xMw {T N:Nat} {u:Template} {f:Formula} (hu:TV T u) (hf:FX u f) {tp:List Int} (hl:(tp.length:Int)=f.free) (hN:20≤N):dR N u f tp=some ((wL u f tp).getD [],(wL u f tp).isSome):=by
  have h1:=hf.f0;have h2:=hf.v0
  unfold dR
  have:=xLe hu hf (tp:=tp) (by omega) tp.length 1 N (by omega) (by omega) (by omega);rw[show((1:Nat):Int)=1 from rfl] at this;rw[this]
  unfold wL xTe
  by_cases h:(List.range' 1 tp.length).all (fun n=>vA u f (tp.take n))=true
  · rw[if_pos h,if_pos h,thn_nx]
    unfold qE
    rw[zD (by simp only[List.length_nil];omega),bnd_s,bnd_s,List.nil_append,xIa hu hf (f.vars.toNat - tp.length) N tp (by omega) (by omega),bnd_s]
  · rw[if_neg h,if_neg h,thn_ret]
    rfl
theorem xKo {T N:Nat} {u:Template} {f:Formula} (hu:TV T u) (hf:FX u f) {tp:List Int} (hl:(tp.length:Int)=f.free) (hN:1100≤N):bZ N (xGd u f) tp=some ((wL u f tp).getD [],(wL u f tp).isSome):=by
  have h1:=hf.f0;have h2:=hf.v0
  unfold bZ
  rw[dW (ρ:=List Int×Bool) (fun k _=>if vA u f (tp.take (k+1)) then none else some ([],false)) (fun j x hj=>by
    have hjl:=(List.getElem?_eq_some_iff.1 hj).1;have hsl:=xJg (tp:=tp) (n:=j+1) (by omega)
    have hlen:(tp.take (j+1)).length=j+1:=by rw[List.length_take];omega
    simp only[Nat.zero_add];rw[kW (by omega) (by omega),bnd_s,show(j:Int)+1=((j+1:Nat):Int) by omega,hsl,bnd_s,xPb hu hf (by omega) (by rw[hlen];omega),bnd_s]
    by_cases h:vA u f (tp.take (j+1))=true
    · rw[h];rfl
    · have h':vA u f (tp.take (j+1))=false:=by simpa using h
      rw[h'];rfl)]
  have key:∀ (l:List Int) (k:Nat),fnd (fun k (_:Int)=>if vA u f (tp.take (k+1)) then (none:Option (List Int×Bool)) else some ([],false)) l k=if (List.range' (k+1) l.length).all (fun n=>vA u f (tp.take n)) then none else some ([],false):=by
    intro l
    induction l with
    | nil=>intro k;rfl
    | cons x l ih=>
      intro k
      unfold fnd
      rw[List.length_cons,List.range'_succ,List.all_cons]
      by_cases h:vA u f (tp.take (k+1))=true
      · simp only[h,if_true,Bool.true_and]
        exact ih (k+1)
      · have h':vA u f (tp.take (k+1))=false:=by simpa using h
        simp [h']
  rw[key tp 0]
  unfold wL xTe
  by_cases h:(List.range' 1 tp.length).all (fun n=>vA u f (tp.take n))=true
  · rw[if_pos h,if_pos h]
    show xK _ _=_
    rw[walk_eq hu hf (f.vars.toNat - tp.length) N tp [] (by omega) (by omega),bnd_s]
    simp
  · rw[if_neg h,if_neg h]
    rfl
end Go.Proofs.YtlommebgedmjdaaGreatDoor
namespace Go.Proofs.YtlommebgedmjdaaGreatDoor
set_option linter.unusedVariables false
set_option linter.unusedSimpArgs false
theorem xGn {σ ρ:Type} {b:σ→Option (Ctl σ ρ)} {r:Out σ ρ}:∀ {m M:Nat} {s:σ},whl b m s=some r→m≤M→whl b M s=some r
  | 0,_,_,h,_=>by cases h
  | m+1,M,s,h,hM=>by
    obtain⟨K,rfl⟩:∃ K,M=K+1:=⟨M - 1,by omega⟩
    unfold whl at h ⊢
    cases hb:b s with
    | none=>rw[hb] at h;cases h
    | some c=>
      rw[hb] at h
      cases c with
      | go s'=>exact xGn h (by omega)
      | brk s'=>exact h
      | ret v=>exact h
theorem xSt {σ ρ:Type} {o:Out σ ρ} {k:σ→Option ρ} {r:ρ} (h:xTi k r o):vC (some o) k=some r:=by
  cases o with
  | nx s=>exact h
  | ret v=>exact congrArg some h
theorem xKw {m M:Nat} {a b c:Int} {d:List Int} (h:aX m a b c=some d) (hM:m≤M):aX M a b c=some d:=by
  unfold aX at h ⊢
  obtain⟨z,h1,h⟩:=fE h;obtain⟨y,h2,h⟩:=fE h;obtain⟨o,ho,hk⟩:=uC h;rw[h1,bnd_s,h2,bnd_s,xGn ho hM];exact xSt hk
theorem xNp {m M:Nat} {a b c:Int} (h:kL m a b=some c) (hM:m≤M):kL M a b=some c:=by
  unfold kL at h ⊢
  obtain⟨o,ho,hk⟩:=uC h;rw[xGn ho hM];exact xSt hk
theorem xCs:kH=aX:=rfl
theorem xGm {T n k N:Nat} (hT:1≤T∧T≤4) (hn:1≤n∧n≤4) (hN:10≤N) (hk:k<(vW T n).length):aX N (T:Int) (n:Int) (k:Int)=some (vW T n)[k]:=by
  have h:=(xFq T (by simp;omega) n (by simp;omega)).2.2.2
  have h1:((List.range (vW T n).length).map (fun(k:Nat)=>aX 10 (T:Nat) (n:Nat) (k:Int)))[k]?=some (some (vW T n)[k]):=by
    rw[h,List.getElem?_map,List.getElem?_eq_getElem hk]
    rfl
  rw[List.getElem?_map,List.getElem?_range hk] at h1;exact xKw (Option.some.inj h1) hN
theorem xCg {T n N:Nat} (hT:1≤T∧T≤4) (hn:1≤n∧n≤4) (hN:10≤N):rC (T:Int) (n:Int)=some ((vW T n).length:Int)∧kL N (T:Int) (n:Int)=some ((vW T n).length:Int):=by
  have h:=xFq T (by simp;omega) n (by simp;omega);exact⟨h.1,xNp h.2.1 hN⟩
theorem xCr {ρ:Type} {N:Nat} {T n:Int} {E:List (List Int)} {is:List Int→Option Bool} (W:List Int→Bool) (hd:∀ (k:Nat) (h:k<E.length),aX N T n (k:Int)=some E[k]) (hi:∀ d∈E,is d=some (W d)):∀ (m k:Nat) (s:List (List Int)),k+m=E.length→s.length+m≤1000 →
    aY (σ:=(List (List Int))) (ρ:=ρ) (fun(k59:Nat) (s53:(List (List Int)))=>
   xK (aX N T n (k59:Int)) fun z65=>
   xK (is z65) fun z70=>
   if z70 then
    xK (ap s53 ([z65])) fun z75=>
    some (.go z75)
   else
    some (.go s53)) m k s=some (.nx (s++(E.drop k).filter W))
  | 0,k,s,hk,_=>by
    rw[List.drop_eq_nil_of_le (by omega)]
    simp [aY]
  | m+1,k,s,hk,hs=>by
    have hlt:k<E.length:=by omega
    have hw:=hi _ (List.getElem_mem hlt);rw[List.drop_eq_getElem_cons hlt,List.filter_cons]
    by_cases h:W E[k]=true
    · rw[fL (s':=s++[E[k]]) (by
        rw[hd k hlt,bnd_s,hw,bnd_s,h,if_pos rfl,zD (by simp only[List.length_cons,List.length_nil];omega),bnd_s]),xCr W hd hi m (k+1) _ (by omega) (by rw[List.length_append,List.length_singleton];omega),if_pos h]
      simp
    · rw[fL (s':=s) (by
        rw[hd k hlt,bnd_s,hw,bnd_s,if_neg h]),xCr W hd hi m (k+1) _ (by omega) (by omega),if_neg h]
theorem xMk {N T n:Nat} (hT:1≤T∧T≤4) (hn:1≤n∧n≤4) (hN:10≤N) {is:List Int→Option Bool} (W:List Int→Bool) (hi:∀ d∈vW T n,is d=some (W d)):fN N (T:Int) (n:Int) is=some ⟨n,(vW T n).filter W⟩:=by
  unfold fN
  have hl:=rA hT hn;rw[(xCg hT hn hN).1,bnd_s,Int.toNat_natCast,xCr W (fun k h=>xGm hT hn hN h) hi _ 0 [] (by omega) (by simp only[List.length_nil];omega),thn_nx,List.nil_append,List.drop_zero]
def dN (u:Template) (f:Formula) (T n:Nat):Rel:=⟨n,(vW T n).filter fun d=>(wL u f d).isSome⟩
theorem xFr {ρ:Type} {N T n:Nat} {u:Template} {f:Formula} (hu:TV T u) (hf:FV u f) (hfn:f.free=n) (hN:20≤N):∀ (m k M:Nat) (s:List (List Int)),k+m=(vW T n).length→m+1≤M→s.length+m≤1000 →
    whl (σ:=Int×(List (List Int))) (ρ:=ρ) (fun(s:Int×(List (List Int)))=>
    match s with
    | (s134,s136)=>
    xK (kL N u.size f.free) fun z156=>
    if (decide (s134<z156)) then
     xK (kH N u.size f.free s134) fun z165=>
     xK (dR N u f z165) fun z186=>
     if z186.2 then
      xK (ap s136 ([z165])) fun z194=>
      xK (ck (s134+1)) fun z198=>
      some (.go (z198,z194))
     else
      xK (ck (s134+1)) fun z200=>
      some (.go (z200,s136))
    else
     some (.brk (s134,s136))) M ((k:Int),s)=some (.nx (((vW T n).length:Int),s++((vW T n).drop k).filter fun d=>(wL u f d).isSome))
  | 0,k,M,s,hk,hM,_=>by
    obtain⟨M,rfl⟩:∃ M',M=M'+1:=⟨M - 1,by omega⟩
    have hn:1≤n∧n≤4:=by have:=hf.f0;omega
    rw[wB (s':=((k:Int),s)) (by
      simp only[hu.s,hfn,(xCg hu.t hn (show 10≤N by omega)).2,bnd_s]
      rw[if_neg (by simp;omega)]),List.drop_eq_nil_of_le (by omega),show k=(vW T n).length by omega]
    simp
  | m+1,k,M,s,hk,hM,hs=>by
    obtain⟨M,rfl⟩:∃ M',M=M'+1:=⟨M - 1,by omega⟩
    have hn:1≤n∧n≤4:=by have:=hf.f0;omega
    have hL:=rA hu.t hn
    have hlt:k<(vW T n).length:=by omega
    have hmem:=iP.1 (List.getElem_mem hlt);have hw:=xMw (N:=N) hu hf.x (tp:=(vW T n)[k]) (by rw[hmem.1,hfn]) hN
    have e:(k:Int)+1=((k+1:Nat):Int):=by omega
    rw[List.drop_eq_getElem_cons hlt,List.filter_cons]
    by_cases h:(wL u f (vW T n)[k]).isSome=true
    · rw[uH (s':=(((k+1:Nat):Int),s++[(vW T n)[k]])) (by
        simp only[hu.s,hfn,(xCg hu.t hn (show 10≤N by omega)).2,bnd_s]
        rw[if_pos (by simp;omega),xCs,xGm hu.t hn (by omega) hlt,bnd_s,hw,bnd_s,h,if_pos rfl,zD (by simp only[List.length_cons,List.length_nil];omega),bnd_s,kW (by omega) (by omega),bnd_s,e]),xFr hu hf hfn hN m (k+1) M _ (by omega) (by omega) (by rw[List.length_append,List.length_singleton];omega),if_pos h]
      simp
    · rw[uH (s':=(((k+1:Nat):Int),s)) (by
        simp only[hu.s,hfn,(xCg hu.t hn (show 10≤N by omega)).2,bnd_s]
        rw[if_pos (by simp;omega),xCs,xGm hu.t hn (by omega) hlt,bnd_s,hw,bnd_s,if_neg h,kW (by omega) (by omega),bnd_s,e]),xFr hu hf hfn hN m (k+1) M _ (by omega) (by omega) (by omega),if_neg h]
theorem xCb {N T n:Nat} {u:Template} {f:Formula} (hu:TV T u) (hf:FV u f) (hfn:f.free=n) (hN:1100≤N):cV N u f=some (dN u f T n)∧iH N u f=some (dN u f T n):=by
  have hn:1≤n∧n≤4:=by have:=hf.f0;omega
  have hL:=rA hu.t hn
  constructor
  · unfold cV
    have:=xFr (ρ:=Rel) hu hf hfn (show 20≤N by omega) (vW T n).length 0 N [] (by omega) (by omega) (by simp only[List.length_nil];omega);rw[show((0:Nat):Int)=0 from rfl] at this;rw[this,thn_nx,hfn]
    rfl
  · unfold iH
    have h1:bR (Template.mk u.size u.rels) f.vars f.atoms=some (xGd u f):=xDf hu hf.x
    rw[h1,bnd_s,hu.s,hfn,xMk hu.t hn (by omega) (fun d=>(wL u f d).isSome) (fun d hd=>by
      unfold lJ
      rw[xKo hu hf.x (by rw[(iP.1 hd).1,hfn]) hN,bnd_s]),bnd_s]
    rfl
def apart (V R:List (List Int)) (d:List Int):Bool:=decide (d∈V) != decide (d∈R)
theorem xQs {T n:Nat} {V R:List (List Int)} (hV:Asc V) (hVm:∀ t∈V,t∈vW T n) (hR:Asc R) (hRm:∀ t∈R,t∈vW T n):(vW T n).filter (apart V R)=[]↔V=R:=by
  constructor
  · intro h
    refine hV.ext hR (fun x=>?_)
    have key:x∈vW T n→(x∈V↔x∈R):=fun hx=>by
      have:=List.filter_eq_nil_iff.1 h x hx
      unfold apart at this
      by_cases h1:x∈V<;>by_cases h2:x∈R<;>simp_all
    exact⟨fun hx=>(key (hVm x hx)).1 hx,fun hx=>(key (hRm x hx)).2 hx⟩
  · rintro rfl
    rw[List.filter_eq_nil_iff];intro x _
    simp [apart]
theorem xNg {b:Nat→List Int→Unit→Option (Ctl Unit Bool)} {v:List (List Int)} {d:List (List Int)} (hl:d.length=v.length) (hb:∀ j x y,d[j]?=some x→v[j]?=some y→b j x ()=some (if decide (x=y) then .go () else .ret false)):vC (oM b d 0 ()) (fun _=>some true)=some (decide (d=v)):=by
  rw[dW (ρ:=Bool) (fun k x=>if (v[k]? != some x)=true then some false else none) (fun j x hj=>by
    have hjl:=(List.getElem?_eq_some_iff.1 hj).1;have hv:v[j]?=some (v[j]'(by omega)):=List.getElem?_eq_getElem _;rw[Nat.zero_add,hb j x _ hj hv,hv]
    by_cases hx:x=v[j]'(by omega)
    · rw[← hx];simp [yW]
    · have h2:(some (v[j]'(by omega)) != some x)=true:=by simpa using fun e=>hx e.symm
      rw[h2,decide_eq_false hx]
      rfl)]
  have key:∀ (d:List (List Int)) (k:Nat),k+d.length=v.length→fnd (fun k x=>if (v[k]? != some x)=true then some false else none) d k=if d=v.drop k then none else some false:=by
    intro d
    induction d with
    | nil=>
      intro k hk;have:v.drop k=[]:=List.drop_eq_nil_of_le (by simp at hk;omega);rw[this]
      rfl
    | cons x d ih=>
      intro k hk
      have hkl:k<v.length:=by simp at hk;omega
      have hd:v.drop k=v[k]::v.drop (k+1):=List.drop_eq_getElem_cons hkl
      unfold fnd
      rw[hd,List.getElem?_eq_getElem hkl]
      by_cases hx:x=v[k]
      · have e1:(some v[k] != some x)=false:=by rw[hx];simp
        rw[e1,if_neg (by simp),ih (k+1) (by simp at hk;omega),hx];simp only[List.cons.injEq,true_and]
      · have h2:(some v[k] != some x)=true:=by simpa using fun e=>hx e.symm
        rw[h2,if_pos rfl,if_neg (fun e=>hx (List.cons.inj e).1)]
  rw[key d 0 (by omega),List.drop_zero]
  by_cases hd:d=v
  · rw[if_pos hd];simp [xBp,hd]
  · rw[if_neg hd];simp [xBp,hd]
theorem xNl {v r:Rel} (ha:v.arity=r.arity):iN v r=some (decide (v.tuples=r.tuples)):=by
  unfold iN
  rw[ha,if_neg (by simp)]
  by_cases hl:v.tuples.length=r.tuples.length
  · rw[hl]
    simp only[bne_self_eq_false,thn_nx,Bool.false_eq_true,if_false]
    exact xNg hl (fun j x y hx hy=>by
      simp only[zO hy,bnd_s,pX]
      by_cases h:x=y<;>simp [h])
  · have h1:((v.tuples.length:Int) != (r.tuples.length:Int))=true:=by simp;omega
    rw[h1,thn_nx,if_pos rfl,decide_eq_false (fun e=>hl (by rw[e]))]
end Go.Proofs.YtlommebgedmjdaaGreatDoor
namespace Go.Proofs.YtlommebgedmjdaaGreatDoor
set_option linter.unusedVariables false
set_option linter.unusedSimpArgs false
theorem oAo {s:Int} {x:Rel} (hN:x.tuples.length≤1048576) (h:mV s x=true):okS s=true∧xNr s.toNat x:=by
  obtain⟨b,_,h2,h3⟩:=xRp s x hN
  have hb:b=true:=by unfold mV at h;rw[h2] at h;exact h
  obtain⟨h4,h5,h6,h7⟩:=h3 hb;have hs:=yY h4;have ha:=yY h5;refine⟨h4,x.arity.toNat,by omega,by omega,by omega,xTd h7,fun t ht=>iP.2 ?_⟩;have h8:=h6 t ht
  unfold lD at h8
  rw[Bool.and_eq_true] at h8
  refine ⟨by have : (t.length : Int) = x.arity := by simpa using h8.1
             omega,fun a ha=>?_⟩
  have h9:=List.all_eq_true.1 h8.2 a ha
  unfold okV at h9
  simp at h9
  omega
theorem uF {u:Template} (hu:aI u) (h:gU u=true):TV u.size.toNat u:=by
  unfold gU at h
  rw[Bool.and_eq_true,Bool.and_eq_true] at h;obtain⟨h1,h2,h3⟩:=h;have hs:=yY h1;exact⟨by omega,by omega,fun r hr=>(oAo (hu r hr) (List.all_eq_true.1 h3 r hr)).2,by have:=of_decide_eq_true h2;omega⟩
def arS (u:Template) (rel:Int):Int:=if rel= -1 then 2 else if 0≤rel∧rel<u.rels.length then (u.rels.getD rel.toNat default).arity else 0
theorem xMn {u:Template} (h:u.rels.length≤6) (rel:Int):kT u rel=some (arS u rel):=by
  unfold kT arS
  by_cases h1:rel= -1
  · subst h1;rfl
  · have h1':(rel == -1)=false:=by simpa using h1
    rw[h1',if_neg (by simp),if_neg h1,kW (by omega) (by omega),bnd_s,gL,bnd_s]
    by_cases h2:0≤rel∧rel<u.rels.length
    · have h3:(decide (0≤rel) && decide (rel≤(u.rels.length:Int) - 1))=true:=by simp;omega
      have h4:u.rels[rel.toNat]?=some (u.rels.getD rel.toNat default):=by
        rw[List.getD_eq_getElem?_getD,List.getElem?_eq_getElem (by omega)]
        rfl
      rw[h3,if_neg (by simp),gQ h2.1 h4,bnd_s,if_pos h2]
    · have h3:(decide (0≤rel) && decide (rel≤(u.rels.length:Int) - 1))=false:=by
        by_cases h5:0≤rel
        · simp [h5];omega
        · simp [h5]
      rw[h3,if_pos (by rfl),if_neg h2]
theorem xCy {u:Template} (h:u.rels.length≤6) (rel:Int):gF u rel=some (arS u rel):=xMn h rel
def wZ (u:Template) (vars:Int) (a:Atom):Bool:=!(arS u a.rel==0) && (((a.args.length:Int)==arS u a.rel) && a.args.all (okV vars))
def tO (u:Template) (f:Formula):Bool:=okS f.free && ((decide (f.free≤f.vars) && decide (f.vars≤8)) && (decide ((f.atoms.length:Int)≤16) && f.atoms.all (wZ u f.vars)))
theorem xRa {s:Int} (h:1≤s∧s≤1000) (a:Int):eH s a=some (okV s a):=by
  unfold eH
  rw[kW (by omega) (by omega),bnd_s,gL]
  rfl
theorem xDh {s:Int} (h:1≤s∧s≤1000) (ar:Int) (t:List Int):vS s t ar=some (lD s t ar):=by
  unfold vS lD
  by_cases hl:((t.length:Int)==ar)=true
  · rw[hl,if_pos rfl,xBa t (fun x=>!okV s x) _ (fun x=>by unfold bK;rw[xRa h,bnd_s])]
    rw[bnd_s,thn_nx,Bool.true_and,← List.not_all_eq_any_not,Bool.not_not]
  · have hl':((t.length:Int)==ar)=false:=by simpa using hl
    rw[hl',if_neg (by simp),thn_nx,Bool.false_and]
theorem xLa {s:Int} (h:1≤s∧s≤1000) (t:List Int):eT t s=some (t.all (okV s)):=by
  unfold eT
  exact uG (okV s) (fun j x hx=>by
    simp only[kW (x:=s - 1) (by omega) (by omega),bnd_s,pO]
    unfold okV
    cases (decide (0≤x) && decide (x≤s - 1))<;>rfl)
theorem xEc {u:Template} (hu:aI u) (ht:gU u=true) (f:Formula):cD u f=some (tO u f):=by
  have hn:=(uF hu ht).n
  unfold cD tO
  have h0:oJ (Template.mk u.size u.rels)=some (gU u):=dF u hu;rw[h0,bnd_s,ht,if_pos rfl]
  have h1:fS (Formula.mk f.free f.vars f.atoms)=some (okS f.free && ((decide (f.free≤f.vars) && decide (f.vars≤8)) && decide ((f.atoms.length:Int)≤16))):=by
    unfold fS
    simp only[yP,bnd_s,gL]
    cases okS f.free<;>simp only[Bool.false_eq_true,if_false,thn_nx,Bool.false_and,if_true,Bool.true_and]
    cases (decide (f.free≤f.vars) && decide (f.vars≤8))<;>rfl
  rw[h1,bnd_s]
  by_cases hs:okS f.free=true
  · by_cases hv:(decide (f.free≤f.vars) && decide (f.vars≤8))=true
    · by_cases ha:decide ((f.atoms.length:Int)≤16)=true
      · rw[hs,hv,ha,if_pos (show(true && (true && true))=true from rfl)]
        have h2:=yY hs
        have h3:f.free≤f.vars∧f.vars≤8:=by simpa using hv
        rw[xAi f.atoms (fun a=>!wZ u f.vars a) _ (fun a _=>by
          unfold eP
          have h4:kT (Template.mk u.size u.rels) a.rel=some (arS u a.rel):=xMn hn a.rel;rw[h4,bnd_s]
          unfold wZ
          by_cases h5:(arS u a.rel==0)=true
          · rw[h5,if_pos rfl,thn_nx]
            rfl
          · have h5':(arS u a.rel==0)=false:=by simpa using h5
            rw[h5',if_neg (by simp)]
            unfold jJ
            simp only[xDh (s:=f.vars) (by omega),bnd_s,thn_nx]
            unfold lD
            rfl),bnd_s,thn_nx,← List.not_all_eq_any_not]
        simp
      · have ha':decide ((f.atoms.length:Int)≤16)=false:=by simpa using ha
        rw[hs,hv,ha']
        rfl
    · have hv':(decide (f.free≤f.vars) && decide (f.vars≤8))=false:=by simpa using hv
      rw[hs,hv']
      rfl
  · have hs':okS f.free=false:=by simpa using hs
    rw[hs']
    rfl
theorem xSk {u:Template} (hu:aI u) (ht:gU u=true) (f:Formula):rH u f=some (tO u f):=by
  have hn:=(uF hu ht).n
  unfold rH tO
  rw[eZ u hu,bnd_s,ht,if_neg (by simp)]
  have h1:gZ f=some (okS f.free && ((decide (f.free≤f.vars) && decide (f.vars≤8)) && decide ((f.atoms.length:Int)≤16))):=by
    unfold gZ
    simp only[xDe,bnd_s,pO]
    cases okS f.free<;>simp only[Bool.false_eq_true,if_false,thn_nx,Bool.false_and,if_true,Bool.true_and]
    cases (decide (f.free≤f.vars) && decide (f.vars≤8))<;>rfl
  rw[h1,bnd_s,thn_nx]
  by_cases hs:okS f.free=true
  · by_cases hv:(decide (f.free≤f.vars) && decide (f.vars≤8))=true
    · by_cases ha:decide ((f.atoms.length:Int)≤16)=true
      · rw[hs,hv,ha,if_neg (by simp)]
        have h2:=yY hs
        have h3:f.free≤f.vars∧f.vars≤8:=by simpa using hv
        rw[uG (wZ u f.vars) (fun j a _=>by
          simp only[xCy hn,bnd_s]
          unfold wZ
          by_cases h5:(arS u a.rel==0)=true
          · rw[h5,if_pos rfl,thn_nx,if_pos rfl]
            rfl
          · have h5':(arS u a.rel==0)=false:=by simpa using h5
            rw[h5',if_neg (by simp)]
            by_cases h6:((a.args.length:Int)==arS u a.rel)=true
            · have h7:((a.args.length:Int) != arS u a.rel)=false:=by simpa using h6
              rw[h7,if_neg (by simp),xLa (by omega),bnd_s,thn_nx,h6]
              cases a.args.all (okV f.vars)<;>rfl
            · have h6':((a.args.length:Int)==arS u a.rel)=false:=by simpa using h6
              have h7:((a.args.length:Int) != arS u a.rel)=true:=by simpa using h6
              rw[h7,if_pos rfl,thn_nx,h6']
              rfl)]
        simp
      · have ha':decide ((f.atoms.length:Int)≤16)=false:=by simpa using ha
        rw[hs,hv,ha']
        rfl
    · have hv':(decide (f.free≤f.vars) && decide (f.vars≤8))=false:=by simpa using hv
      rw[hs,hv']
      rfl
  · have hs':okS f.free=false:=by simpa using hs
    rw[hs']
    rfl
theorem xRg {T:Nat} {u:Template} (hu:TV T u) {f:Formula} (h:tO u f=true):FV u f:=by
  unfold tO at h
  simp only[Bool.and_eq_true,decide_eq_true_eq] at h;obtain⟨h1,⟨h2,h3⟩,h4,h5⟩:=h;have h6:=yY h1;refine⟨h6,⟨h2,h3⟩,by omega,fun a ha=>?_⟩;have h7:=List.all_eq_true.1 h5 a ha
  unfold wZ at h7
  simp only[Bool.and_eq_true] at h7;obtain⟨h8,h9,h10⟩:=h7
  have h8':arS u a.rel≠0:=by simpa using h8
  have h9':(a.args.length:Int)=arS u a.rel:=by simpa using h9
  refine⟨fun i hi=>?_,?_⟩
  · have:=List.all_eq_true.1 h10 i hi
    unfold okV at this
    simp at this
    omega
  · unfold arS at h8' h9'
    by_cases e:a.rel= -1
    · rw[if_pos e] at h9'
      exact .inl ⟨e,by omega⟩
    · rw[if_neg e] at h8' h9'
      by_cases e2:0≤a.rel∧a.rel<u.rels.length
      · rw[if_pos e2] at h9'
        have h11:u.rels[a.rel.toNat]?=some (u.rels.getD a.rel.toNat default):=by
          rw[List.getD_eq_getElem?_getD,List.getElem?_eq_getElem (by omega)]
          rfl
        exact .inr ⟨_,e2.1,h11,List.mem_of_getElem? h11,h9'⟩
      · rw[if_neg e2] at h8'
        exact absurd rfl h8'
def xBt (t u:Template) (k:Nat) (f:Formula):Option Bool:=if tO u f && (f.free==(t.rels.getD k default).arity) then none else some false
def uO (t u:Template) (g:Gadgets):Bool:=gU t && (gU u && ((t.size==u.size) && (((g.formulas.length:Int)==(t.rels.length:Int)) && (fnd (xBt t u) g.formulas 0).isNone)))
theorem xGk {α ρ:Type} {q:Nat→α→Option ρ}:∀ {l:List α} {k:Nat},fnd q l k=none→∀ j x,l[j]?=some x→q (k+j) x=none
  | [],_,_,j,x,h=>by cases j<;>cases h
  | y::l,k,h,j,x,hx=>by
    unfold fnd at h
    cases hq:q k y with
    | some r=>rw[hq] at h;cases h
    | none=>
      rw[hq] at h
      cases j with
      | zero=>simp at hx;subst hx;exact hq
      | succ j=>
        have:=xGk (k:=k+1) h j x (by simpa using hx)
        rwa [show k+1+j=k+(j+1) by omega] at this
theorem xJp {α ρ ρ':Type} {q:Nat→α→Option ρ} (g:ρ→ρ'):∀ (l:List α) (k:Nat),fnd (fun k x=>(q k x).map g) l k=(fnd q l k).map g
  | [],_=>rfl
  | y::l,k=>by
    unfold fnd
    cases q k y with
    | none=>exact xJp g l (k+1)
    | some r=>rfl
theorem xAq {t u:Template} {g:Gadgets} (ht:aI t) (hu:aI u):fO t u g=some (uO t u g)∧aG t u g=some (uO t u g):=by
  have e0:oJ (Template.mk t.size t.rels)=some (gU t):=dF t ht;have e1:oJ (Template.mk u.size u.rels)=some (gU u):=dF u hu
  unfold fO aG uO
  rw[eZ t ht,e0,bnd_s,bnd_s]
  by_cases h1:gU t=true
  · rw[eZ u hu,e1]
    simp only[h1,Bool.not_true,Bool.false_eq_true,if_false,bnd_s,Bool.true_and]
    by_cases h2:gU u=true
    · simp only[h2,Bool.not_true,Bool.false_eq_true,if_false,Bool.true_and]
      by_cases h3:t.size=u.size
      · rw[h3]
        simp only[bne_self_eq_false,Bool.false_eq_true,if_false,thn_nx,beq_self_eq_true,Bool.true_and]
        by_cases h4:(g.formulas.length:Int)=(t.rels.length:Int)
        · rw[h4]
          simp only[bne_self_eq_false,Bool.false_eq_true,if_false,beq_self_eq_true,Bool.true_and]
          have hr:∀ (j:Nat) x,g.formulas[j]?=some x→ix t.rels (j:Int)=some (t.rels.getD j default):=fun j x hj=>by
            have:=(List.getElem?_eq_some_iff.1 hj).1;exact zO (by rw[List.getD_eq_getElem?_getD,List.getElem?_eq_getElem (by omega)];rfl)
          constructor
          · rw[dW (xBt t u) (fun j x hj=>by
              rw[Nat.zero_add];simp only[xSk hu h2,bnd_s,hr j x hj]
              unfold xBt
              cases tO u x
              · rfl
              · simp only[Bool.not_true,Bool.false_eq_true,if_false,thn_nx,Bool.true_and]
                by_cases e:x.free=(t.rels.getD j default).arity
                · have e1:(x.free != (t.rels.getD j default).arity)=false:=by simpa using e
                  have e2:(x.free==(t.rels.getD j default).arity)=true:=by simpa using e
                  rw[e1,e2]
                  rfl
                · have e1:(x.free != (t.rels.getD j default).arity)=true:=by simpa using e
                  have e2:(x.free==(t.rels.getD j default).arity)=false:=by simpa using e
                  rw[e1,e2]
                  rfl)]
            cases hf:fnd (xBt t u) g.formulas 0 with
            | none=>rfl
            | some b=>
              have:∀ (l:List Formula) (k:Nat) b,fnd (xBt t u) l k=some b→b=false:=by
                intro l
                induction l with
                | nil=>intro k b h;cases h
                | cons y l ih=>
                  intro k b h
                  unfold fnd at h
                  unfold xBt at h
                  split at h
                  · rename_i h5;split at h5
                    · cases h5
                    · rw[← Option.some.inj h5] at h;exact(Option.some.inj h).symm
                  · exact ih _ _ h
              rw[this _ _ _ hf]
              rfl
          · rw[dW (xBt t u) (fun j x hj=>by
              rw[Nat.zero_add];have e3:cD (Template.mk u.size u.rels) (Formula.mk x.free x.vars x.atoms)=some (tO u x):=xEc hu h2 x;simp only[e3,bnd_s,hr j x hj]
              unfold xBt
              cases tO u x
              · rfl
              · simp only[Bool.not_true,Bool.false_eq_true,if_false,thn_nx,Bool.true_and]
                by_cases e:x.free=(t.rels.getD j default).arity
                · have e1:(x.free != (t.rels.getD j default).arity)=false:=by simpa using e
                  have e2:(x.free==(t.rels.getD j default).arity)=true:=by simpa using e
                  rw[e1,e2]
                  rfl
                · have e1:(x.free != (t.rels.getD j default).arity)=true:=by simpa using e
                  have e2:(x.free==(t.rels.getD j default).arity)=false:=by simpa using e
                  rw[e1,e2]
                  rfl)]
            cases hf:fnd (xBt t u) g.formulas 0 with
            | none=>rfl
            | some b=>
              have:∀ (l:List Formula) (k:Nat) b,fnd (xBt t u) l k=some b→b=false:=by
                intro l
                induction l with
                | nil=>intro k b h;cases h
                | cons y l ih=>
                  intro k b h
                  unfold fnd at h
                  unfold xBt at h
                  split at h
                  · rename_i h5;split at h5
                    · cases h5
                    · rw[← Option.some.inj h5] at h;exact(Option.some.inj h).symm
                  · exact ih _ _ h
              rw[this _ _ _ hf]
              rfl
        · have h4':((g.formulas.length:Int) != (t.rels.length:Int))=true:=by simpa using h4
          have h4'':((g.formulas.length:Int)==(t.rels.length:Int))=false:=by simpa using h4
          rw[h4',h4''];exact⟨rfl,rfl⟩
      · have h3':(t.size != u.size)=true:=by simpa using h3
        have h3'':(t.size==u.size)=false:=by simpa using h3
        rw[h3',h3''];exact⟨rfl,rfl⟩
    · have h2':gU u=false:=by simpa using h2
      rw[h2'];exact⟨rfl,rfl⟩
  · have h1':gU t=false:=by simpa using h1
    rw[h1'];exact⟨rfl,rfl⟩
end Go.Proofs.YtlommebgedmjdaaGreatDoor
namespace Go.Proofs.YtlommebgedmjdaaGreatDoor
set_option linter.unusedVariables false
set_option linter.unusedSimpArgs false
structure GV (T:Nat) (t u:Template) (g:Gadgets):Prop where
  tV:TV T t
  uV:TV T u
  n:g.formulas.length=t.rels.length
  f:∀ (j:Nat) f,g.formulas[j]?=some f→FV u f∧f.free=(t.rels.getD j default).arity∧t.rels[j]?=some (t.rels.getD j default)
theorem tA {t u:Template} {g:Gadgets} (ht:aI t) (hu:aI u) (h:uO t u g=true):GV t.size.toNat t u g:=by
  unfold uO at h
  simp only[Bool.and_eq_true] at h;obtain⟨h1,h2,h3,h4,h5⟩:=h
  have e:t.size=u.size:=by simpa using h3
  have hn0:(g.formulas.length:Int)=(t.rels.length:Int):=by simpa using h4
  have hn:g.formulas.length=t.rels.length:=by omega
  have hT:=uF ht h1;have hU:=uF hu h2;rw[← e] at hU;refine⟨hT,hU,hn,fun j f hj=>?_⟩;have h6:=xGk (Option.isNone_iff_eq_none.1 h5) j f hj;rw[Nat.zero_add] at h6
  unfold xBt at h6
  have hjl:=(List.getElem?_eq_some_iff.1 hj).1
  have hg:t.rels[j]?=some (t.rels.getD j default):=by rw[List.getD_eq_getElem?_getD,List.getElem?_eq_getElem (by omega)];rfl
  split at h6
  · rename_i h7
    rw[Bool.and_eq_true] at h7;exact⟨xRg hU h7.1,by simpa using h7.2,hg⟩
  · cases h6
def xBu (T:Nat) (t u:Template) (k:Nat) (f:Formula):List (List Int):=(vW T f.free.toNat).filter (apart (dN u f T f.free.toNat).tuples (t.rels.getD k default).tuples)
def iZ (T:Nat) (t u:Template) (k:Nat) (f:Formula):Option (Nat×Rel×List Int):=match xBu T t u k f with
  | []=>none
  | d::_=>some (k,dN u f T f.free.toNat,d)
theorem sX {T:Nat} {u:Template} {f:Formula} {n:Nat}:Asc (dN u f T n).tuples∧∀ t∈(dN u f T n).tuples,t∈vW T n:=
  ⟨(xAb T n).filter _,fun t ht=>(List.mem_filter.1 ht).1⟩
theorem GV.rel {T:Nat} {t u:Template} {g:Gadgets} (h:GV T t u g) {j:Nat} {f:Formula} (hj:g.formulas[j]?=some f):Asc (t.rels.getD j default).tuples∧(∀ x∈(t.rels.getD j default).tuples,x∈vW T f.free.toNat)∧(t.rels.getD j default).tuples.length≤256∧(f.free.toNat:Int)=f.free:=by
  obtain⟨h1,h2,h3⟩:=h.f j f hj;have hm:=List.mem_of_getElem? h3;obtain⟨n,e,_,_,h4,h5⟩:=h.tV.r _ hm;have hf:=h1.f0
  have e2:f.free.toNat=n:=by rw[h2,e];simp
  exact⟨h4,by rw[e2];exact h5,(h.tV.r _ hm).len h.tV.t,by omega⟩
theorem rO {T:Nat} {t u:Template} {g:Gadgets} (h:GV T t u g) {j:Nat} {f:Formula} (hj:g.formulas[j]?=some f):iZ T t u j f=none↔(dN u f T f.free.toNat).tuples=(t.rels.getD j default).tuples:=by
  obtain⟨h1,h2,_,_⟩:=h.rel hj;rw[← xQs (T:=T) (n:=f.free.toNat) sX.1 sX.2 h1 h2]
  show _↔xBu T t u j f=[]
  unfold iZ
  cases xBu T t u j f<;>simp
theorem uZ {N T:Nat} {t u:Template} {g:Gadgets} (h:GV T t u g) (hN:1100≤N) :
    eN N t u g=some (match fnd (iZ T t u) g.formulas 0 with | none=>(-1,⟨0,[]⟩) | some r=>((r.1:Int),r.2.1)) ∧
    aV N t u g=some (match fnd (iZ T t u) g.formulas 0 with | none=>(-1,[]) | some r=>((r.1:Int),r.2.2)):=by
  constructor
  · unfold eN
    rw[dW (fun k x=>(iZ T t u k x).map fun r=>((r.1:Int),r.2.1)) (fun j f hj=>by
      rw[Nat.zero_add];obtain⟨h1,h2,h3⟩:=h.f j f hj;obtain⟨h4,h5,h6,h7⟩:=h.rel hj;have hv:=(xCb h.uV h1 h7.symm hN).1;simp only[hv,bnd_s,zO h3];have hs:iN (Rel.mk (dN u f T f.free.toNat).arity (dN u f T f.free.toNat).tuples) (t.rels.getD j default)=some (decide ((dN u f T f.free.toNat).tuples=(t.rels.getD j default).tuples)):=xNl (by rw[← h2,← h7];rfl);rw[hs,bnd_s]
      by_cases e:(dN u f T f.free.toNat).tuples=(t.rels.getD j default).tuples
      · rw[(rO h hj).2 e,decide_eq_true e]
        rfl
      · rw[decide_eq_false e]
        cases hq:iZ T t u j f with
        | none=>exact absurd ((rO h hj).1 hq) e
        | some r=>
          unfold iZ at hq
          split at hq
          · cases hq
          · rw[← Option.some.inj hq]
            rfl),xJp]
    cases fnd (iZ T t u) g.formulas 0<;>rfl
  · unfold aV
    rw[dW (fun k x=>(iZ T t u k x).map fun r=>((r.1:Int),r.2.2)) (fun j f hj=>by
      rw[Nat.zero_add];obtain⟨h1,h2,h3⟩:=h.f j f hj;obtain⟨h4,h5,h6,h7⟩:=h.rel hj;have hv:iH N (Template.mk u.size u.rels) (Formula.mk f.free f.vars f.atoms)=some (dN u f T f.free.toNat):=(xCb h.uV h1 h7.symm hN).2;have hf:=h1.f0
      have hn:1≤f.free.toNat∧f.free.toNat≤4:=by omega
      have hvl:(dN u f T f.free.toNat).tuples.length≤256:=Nat.le_trans (List.length_filter_le _ _) (rA h.tV.t hn);simp only[hv,bnd_s]
      have hr:fN N t.size f.free (fun a0=>aQ N a0 (Rel.mk (dN u f T f.free.toNat).arity (dN u f T f.free.toNat).tuples) (Template.mk t.size t.rels) (j:Int))=some ⟨f.free.toNat,xBu T t u j f⟩:=by
        have e:fN N t.size f.free (fun a0=>aQ N a0 (Rel.mk (dN u f T f.free.toNat).arity (dN u f T f.free.toNat).tuples) (Template.mk t.size t.rels) (j:Int))=fN N (T:Int) ((f.free.toNat:Nat):Int) (fun a0=>aQ N a0 (Rel.mk (dN u f T f.free.toNat).arity (dN u f T f.free.toNat).tuples) (Template.mk t.size t.rels) (j:Int)):=by rw[h7,h.tV.s]
        rw[e];refine xMk h.tV.t hn (by omega) (apart (dN u f T f.free.toNat).tuples (t.rels.getD j default).tuples) (fun d _=>?_)
        unfold aQ
        have h8:cP N (Rel.mk (dN u f T f.free.toNat).arity (dN u f T f.free.toNat).tuples) d=some (decide (d∈(dN u f T f.free.toNat).tuples)):=xKb sX.1 (by simp only;omega) (by omega);rw[h8,bnd_s]
        show xK (ix t.rels (j:Int)) _=_
        rw[zO h3,bnd_s,xKb h4 (by omega) (by omega),bnd_s]
        rfl
      rw[hr,bnd_s]
      unfold iZ
      cases hw:xBu T t u j f with
      | nil=>rfl
      | cons d r=>
        simp only;rw[if_pos (by simp),show ix (d::r) 0=some d from rfl,bnd_s]
        rfl),xJp]
    cases fnd (iZ T t u) g.formulas 0<;>rfl
theorem xQr (o:Option (Nat×Rel×List Int)):decide ((match o with | none=>((-1:Int),(⟨0,[]⟩:Rel)) | some r=>((r.1:Int),r.2.1)).1<0)=o.isNone:=by
  cases o with
  | none=>rfl
  | some r=>simp
theorem xNt (o:Option (Nat×Rel×List Int)):decide ((match o with | none=>((-1:Int),([]:List Int)) | some r=>((r.1:Int),r.2.2)).1<0)=o.isNone:=by
  cases o with
  | none=>rfl
  | some r=>simp
def lR (t u:Template) (g:Gadgets):Bool:=uO t u g && (fnd (iZ t.size.toNat t u) g.formulas 0).isNone
theorem xAk {N:Nat} {t u:Template} {g:Gadgets} (ht:aI t) (hu:aI u) (hN:1100≤N):dJ N t u g=some (lR t u g):=by
  unfold dJ lR
  rw[(xAq ht hu).1,bnd_s]
  by_cases h:uO t u g=true
  · rw[(uZ (tA ht hu h) hN).1,h,bnd_s,xQr]
    rfl
  · have h':uO t u g=false:=by simpa using h
    rw[h']
    rfl
theorem iM {N:Nat} {t u:Template} {g:Gadgets} (ht:aI t) (hu:aI u) (hN:1100≤N):rQ N t u g=some (lR t u g)∧qU N t u g=some (lR t u g):=by
  constructor
  · unfold rQ
    have:dJ N (Template.mk t.size t.rels) (Template.mk u.size u.rels) (Gadgets.mk g.formulas)=some (lR t u g):=xAk ht hu hN;rw[this]
    rfl
  · unfold qU lR
    have h0:aG (Template.mk t.size t.rels) (Template.mk u.size u.rels) (Gadgets.mk g.formulas)=some (uO t u g):=(xAq ht hu).2;rw[h0,bnd_s]
    by_cases h:uO t u g=true
    · have h1:aV N (Template.mk t.size t.rels) (Template.mk u.size u.rels) (Gadgets.mk g.formulas)=_:=(uZ (tA ht hu h) hN).2
      rw[h1,h,bnd_s,xNt]
      rfl
    · have h':uO t u g=false:=by simpa using h
      rw[h']
      rfl
end Go.Proofs.YtlommebgedmjdaaGreatDoor
