import Derived.Test.YtfmnjkpddljdcaaGreatDoorP2
import Derived.Test.YtfmnjkpddljdcaaGreatDoorPC
import Derived.Test.YtfmnjkpddljdcaaGreatDoorQ2
import Derived.Test.YtfmnjkpddljdcaaGreatDoorM1
namespace Go.Proofs.YtfmnjkpddljdcaaGreatDoor
end Go.Proofs.YtfmnjkpddljdcaaGreatDoor
namespace Go.Proofs.YtfmnjkpddljdcaaGreatDoor
set_option linter.unusedVariables false
def lZ (x0:List Int):Option Bool:=
 some (((x0.length:Int)==0))
def aR (y0:(List (List Int))):Option Bool:=
 xY (zJ y0 (fun a0=>lZ a0)) fun z13=>
 some z13
def rK (N:Nat) (x0:Template) (x1:Instance) (x2:List (List Int)) (x3:List (List Int)→Option Bool):Option ((List ArcStep)×(List (List Int))):=
 kY (σ:=(List ArcStep)×Bool×(List (List Int))) (
  lD (σ:=(List ArcStep)×Bool×(List (List Int))) (ρ:=(List ArcStep)×(List (List Int))) (fun(s:(List ArcStep)×Bool×(List (List Int)))=>
    match s with
    | (s2912,s2915,s2916)=>
    if s2915 then
     kY (σ:=(List ArcStep)×Bool×(List (List Int))) (
      qW (σ:=(List ArcStep)×Bool×(List (List Int))) (ρ:=(Ctl ((List ArcStep)×Bool×(List (List Int))) ((List ArcStep)×(List (List Int))))) (fun(k3897:Nat) (x3899:Con) (s:(List ArcStep)×Bool×(List (List Int)))=>
        match s with
        | (s3883,s3886,s3887)=>
        kY (σ:=(List ArcStep)×Bool×(List (List Int))) (
         qW (σ:=(List ArcStep)×Bool×(List (List Int))) (ρ:=(Ctl ((List ArcStep)×Bool×(List (List Int))) (Ctl ((List ArcStep)×Bool×(List (List Int))) ((List ArcStep)×(List (List Int)))))) (fun(k4223:Nat) (x4225:Int) (s:(List ArcStep)×Bool×(List (List Int)))=>
           match s with
           | (s4209,s4212,s4213)=>
           xY (ix s4213 x4225) fun z4232=>
           xY (zE z4232) fun z4238=>
           kY (σ:=(List ArcStep)×Bool×(List (List Int))) (
            qW (σ:=(List ArcStep)×Bool×(List (List Int))) (ρ:=(Ctl ((List ArcStep)×Bool×(List (List Int))) (Ctl ((List ArcStep)×Bool×(List (List Int))) (Ctl ((List ArcStep)×Bool×(List (List Int))) ((List ArcStep)×(List (List Int))))))) (fun(k4333:Nat) (x4335:Int) (s:(List ArcStep)×Bool×(List (List Int)))=>
              match s with
              | (s4319,s4322,s4323)=>
              xY (bO (Template.mk x0.size x0.rels) (Con.mk x3899.rel x3899.scope) s4323 (k4223:Int) x4335) fun z4342=>
              if z4342 then
               some (.go (s4319,s4322,s4323))
              else
               xY (ix s4323 x4225) fun z4345=>
               xY (bT N z4345 x4335) fun z4351=>
               xY (ap s4319 ([(ArcStep.mk x4225 x4335 (k3897:Int))])) fun z4362=>
               xY (x3 (s4323.set (x4225).toNat z4351)) fun z4366=>
               if z4366 then
                some (.ret (.ret (.ret (.ret (z4362,(s4323.set (x4225).toNat z4351))))))
               else
                some (.go (z4362,true,(s4323.set (x4225).toNat z4351)))) z4238 0 (s4209,s4212,s4213)) fun(s4326,s4329,s4330)=>
           some (.go (s4326,s4329,s4330))) x3899.scope 0 (s3883,s3886,s3887)) fun(s4216,s4219,s4220)=>
        some (.go (s4216,s4219,s4220))) x1.cons 0 (s2912,false,s2916)) fun(s3890,s3893,s3894)=>
     some (.go (s3890,s3893,s3894))
    else
     some (.brk (s2912,s2915,s2916))) N ([],true,x2)) fun(s2919,s2922,s2923)=>
 some (s2919,s2923)
def lE (N:Nat) (x0_0:Int) (x0_1:List Rel) (x0_2:Int) (x0_3:List Con) (x0_4:Int) (x0_5:Int) (x0_6:List Line) (x0_7:List Int) (x0_8:Int) (x1:List (List Int)):Option (Bool×Int×(List Line)×Int×(List (List Int))):=
 if (x0_5==x0_4) then
  some (false,x0_5,x0_6,7,x1)
 else
  xY (ck (x0_5+1)) fun z13=>
  xY (aR x1) fun z15=>
  if z15 then
   some (true,z13,x0_6,x0_8,x1)
  else
   xY (rK N (Template.mk x0_0 x0_1) (Instance.mk x0_2 x0_3) x1 (fun d=>aR d)) fun z18=>
   kY (σ:=(List Line)) (
    qW (σ:=(List Line)) (ρ:=Bool×Int×(List Line)×Int×(List (List Int))) (fun(k142:Nat) (x144:ArcStep) (s136:(List Line))=>
     xY (ap s136 ([(Line.mk 2 x144.var x144.value x144.con)])) fun z167=>
     some (.go z167)) z18.1 0 x0_6) fun s139=>
   some (true,z13,s139,x0_8,z18.2)
def tU (x0:List (List Int)):Option Int:=
 kY (σ:=Int) (
  qW (σ:=Int) (ρ:=Int) (fun(k55:Nat) (x57:(List Int)) (s51:Int)=>
   kY (σ:=Bool) (
    if (decide (2≤(x57.length:Int))) then  if (decide (s51<0)) then  some (.nx true) else  xY (ix x0 s51) fun z84=>
      some (.nx (decide ((x57.length:Int)<(z84.length:Int)))) else  some (.nx false)) fun s79=>
   if s79 then
    some (.go (k55:Int))
   else
    some (.go s51)) x0 0 (-1)) fun s53=>
 some s53
def fZ:Nat→Int→(List Rel)→Int→(List Con)→Int→Int→(List Line)→(List Int)→Int→(List (List Int))→Option (Bool×Int×(List Line)×(List Int)×Int×(List (List Int)))
  | 0,_,_,_,_,_,_,_,_,_,_=>none
  | N+1,x0_0,x0_1,x0_2,x0_3,x0_4,x0_5,x0_6,x0_7,x0_8,x1=>
  kY (σ:=(List (List Int))×Int×(List Line)×(List Int)×Int) (
   lD (σ:=(List (List Int))×Int×(List Line)×(List Int)×Int) (ρ:=Bool×Int×(List Line)×(List Int)×Int×(List (List Int))) (fun(s:(List (List Int))×Int×(List Line)×(List Int)×Int)=>
     match s with
     | (s455,s457,s459,s462,s465)=>
     xY (lE N x0_0 x0_1 x0_2 x0_3 x0_4 s457 s459 s462 s465 s455) fun z485=>
     if z485.1 then
      xY (kE z485.2.2.2.2 (fun a0=>lZ a0)) fun z497=>
      if (decide (0≤z497)) then
       xY (ap z485.2.2.1 ([(Line.mk 3 z497 0 0)])) fun z502=>
       some (.ret (true,z485.2.1,z502,s462,z485.2.2.2.1,z485.2.2.2.2))
      else
       xY (tU z485.2.2.2.2) fun z506=>
       if (decide (z506<0)) then
        kY (σ:=(List Int)) (
         qW (σ:=(List Int)) (ρ:=(Ctl ((List (List Int))×Int×(List Line)×(List Int)×Int) (Bool×Int×(List Line)×(List Int)×Int×(List (List Int))))) (fun(k599:Nat) (x601:(List Int)) (s593:(List Int))=>
          xY (ix x601 0) fun z618=>
          xY (ap s593 ([z618])) fun z625=>
          some (.go z625)) z485.2.2.2.2 0 []) fun s596=>
        some (.ret (false,z485.2.1,z485.2.2.1,s596,z485.2.2.2.1,z485.2.2.2.2))
       else
        xY (ix z485.2.2.2.2 z506) fun z641=>
        xY (ix z641 0) fun z647=>
        xY (ap z485.2.2.1 ([(Line.mk 1 z506 z647 0)])) fun z654=>
        xY (eO z485.2.2.2.2) fun z658=>
        xY (ix z658 z506) fun z665=>
        xY (fZ N x0_0 x0_1 x0_2 x0_3 x0_4 z485.2.1 z654 s462 z485.2.2.2.1 (z658.set (z506).toNat ([z647]))) fun z671=>
        if (!z671.1) then
         some (.ret (false,z671.2.1,z671.2.2.1,z671.2.2.2.1,z671.2.2.2.2.1,z485.2.2.2.2))
        else
         xY (bT N z641 z647) fun z689=>
         some (.go ((z485.2.2.2.2.set (z506).toNat z689),z671.2.1,z671.2.2.1,z671.2.2.2.1,z671.2.2.2.2.1))
     else
      some (.brk (z485.2.2.2.2,z485.2.1,z485.2.2.1,s462,z485.2.2.2.1))) N (x1,x0_5,x0_6,x0_7,x0_8)) fun(s467,s469,s471,s474,s477)=>
  some (false,s469,s471,s474,s477,s467)
def wE (N:Nat) (x0:Template) (x1:Instance) (x2:List (List Int)) (x3:Int):Option ((Int×(List Rel)×Int×(List Con)×Int×Int×(List Line)×(List Int)×Int)×(List (List Int))):=
 xY (fZ N x0.size x0.rels x1.vars x1.cons x3 0 ([]) ([]) 0 x2) fun z22=>
 if z22.1 then
  some ((x0.size,x0.rels,x1.vars,x1.cons,x3,z22.2.1,z22.2.2.1,z22.2.2.2.1,6),z22.2.2.2.2.2)
 else
  some ((x0.size,x0.rels,x1.vars,x1.cons,x3,z22.2.1,z22.2.2.1,z22.2.2.2.1,z22.2.2.2.2.1),z22.2.2.2.2.2)
def rP (x0:Template) (x1:Instance) (x2:Int):Option Int:=
 xY (aS (Template.mk x0.size x0.rels) (Instance.mk x1.vars x1.cons)) fun z19=>
 if (!z19) then
  some 1
 else
  xY (bA x2 0 5000) fun z22=>
  if (!z22) then
   some 2
  else
   some 0
end Go.Proofs.YtfmnjkpddljdcaaGreatDoor
namespace Go.Proofs.YtfmnjkpddljdcaaGreatDoor
end Go.Proofs.YtfmnjkpddljdcaaGreatDoor
namespace Go.Proofs.YtfmnjkpddljdcaaGreatDoor
end Go.Proofs.YtfmnjkpddljdcaaGreatDoor
namespace Go.Proofs.YtfmnjkpddljdcaaGreatDoor
end Go.Proofs.YtfmnjkpddljdcaaGreatDoor
namespace Go.Proofs.YtfmnjkpddljdcaaGreatDoor
end Go.Proofs.YtfmnjkpddljdcaaGreatDoor
namespace Go.Proofs.YtfmnjkpddljdcaaGreatDoor
end Go.Proofs.YtfmnjkpddljdcaaGreatDoor
namespace Go.Proofs.YtfmnjkpddljdcaaGreatDoor
end Go.Proofs.YtfmnjkpddljdcaaGreatDoor
namespace Go.Proofs.YtfmnjkpddljdcaaGreatDoor
set_option linter.unusedVariables false
set_option linter.unusedSimpArgs false
theorem gE (a lo hi:Int):bA a lo hi=some (decide (lo≤a) && decide (a≤hi)):=by
  unfold bA
  by_cases h:lo≤a
  · simp [h]
  · simp [h]
theorem mJ (a lo hi:Int):bE a lo hi=some (decide (lo≤a) && decide (a≤hi)):=gE a lo hi
def okS (s:Int):Bool:=decide (1≤s) && decide (s≤4)
def okV (s a:Int):Bool:=decide (0≤a) && decide (a≤s - 1)
def wU (s:Int) (t:List Int) (ar:Int):Bool:=((t.length:Int)==ar) && t.all (okV s)
theorem xHk {s:Int} (h:okS s=true):1≤s∧s≤4:=by simpa [okS] using h
theorem xFw (s:Int):lH s=some (okS s):=by unfold lH;rw[gE];rfl
theorem xKp (s:Int):mD s=some (okS s):=by unfold mD;rw[gE];rfl
theorem xDk (s:Int):jK s=some (okS s):=by unfold jK;rw[mJ];rfl
theorem xJl (s:Int):jY s=some (okS s):=by unfold jY;rw[mJ];rfl
theorem ckS {s:Int} (h:okS s=true):ck (s - 1)=some (s - 1):=by have:=xHk h;exact kI (by omega) (by omega)
theorem xKn {s:Int} (h:okS s=true) (a:Int):fP s a=some (okV s a):=by
  unfold fP
  rw[ckS h,bnd_s,gE]
  rfl
theorem xIz {s:Int} (h:okS s=true) (ar:Int) (t:List Int):iJ s ar t=some (wU s t ar):=by
  unfold iJ
  rw[gZ (fun _ x=>if !okV s x then some false else none) (fun j x hj=>by
    simp only[ckS h,bnd_s,mJ]
    show(if (!okV s x)=true then _ else _)=_
    by_cases hv:okV s x=true
    · simp [hv,wR]
    · simp [hv,wR])]
  rw[uT]
  unfold wU
  by_cases ha:t.all (okV s)=true
  · have:t.any (fun x=>!okV s x)=false:=by simpa using ha
    rw[this,ha]
    simp [xHp]
  · have ha':t.all (okV s)=false:=by simpa using ha
    have:t.any (fun x=>!okV s x)=true:=by simpa using ha'
    rw[this,ha']
    simp [xHp]
theorem xNv (l:List Int) (p:Int→Bool) (f:Int→Option Bool) (hf:∀ x,f x=some (p x)):∃ i,zK l f=some i∧decide (0≤i)=l.any p:=by
  unfold zK
  rw[gZ (fun k x=>if p x then some (k:Int) else none) (fun j x hj=>by
    simp only[hf,bnd_s]
    by_cases hv:p x=true
    · simp [hv,wR]
    · simp [hv,wR])]
  have key:∀ (l:List Int) (k:Nat),(l.any p=true∧∃ i:Nat,fnd (fun k x=>if p x then some (k:Int) else none) l k=some (i:Int))∨(l.any p=false∧fnd (fun k x=>if p x then some (k:Int) else none) l k=none):=by
    intro l
    induction l with
    | nil=>intro k;exact .inr ⟨rfl,rfl⟩
    | cons x l ih=>
      intro k
      unfold fnd
      by_cases hv:p x=true
      · exact .inl ⟨by simp [hv],k,by simp [hv]⟩
      · have hv':p x=false:=by simpa using hv
        rcases ih (k+1) with ⟨h1,i,h2⟩ | ⟨h1,h2⟩
        · exact .inl ⟨by simp [h1],i,by simp [hv',h2]⟩
        · exact .inr ⟨by simp [h1,hv'],by simp [hv',h2]⟩
  rcases key l 0 with ⟨h1,i,h2⟩ | ⟨h1,h2⟩
  · rw[h2];exact⟨i,rfl,by simp [h1]⟩
  · rw[h2];exact⟨-1,rfl,by simp [h1]⟩
theorem yT (l:List Int) (p:Int→Bool) (f:Int→Option Bool) (hf:∀ x,f x=some (p x)):vQ l f=some (l.any p):=by
  obtain⟨i,h1,h2⟩:=xNv l p f hf
  unfold vQ
  rw[h1,bnd_s,h2]
theorem xHq {s:Int} (h:okS s=true) (ar:Int) (t:List Int):aK s t ar=some (wU s t ar):=by
  unfold aK
  rw[yT t (fun x=>!okV s x) _ (fun x=>by unfold dH;rw[xKn h];rfl)]
  unfold wU
  by_cases hl:((t.length:Int)==ar)=true
  · rw[hl]
    simp
    rw[Bool.eq_iff_iff]
    simp
  · have:((t.length:Int)==ar)=false:=by simpa using hl
    rw[this]
    simp
def rA (a b:Int):Int:=if a<b then -1 else if b<a then 1 else 0
def eW:List Int→List Int→Int
  | [],[]=>0
  | [],_::_=>-1
  | _::_,[]=>1
  | a::l,b::m=>if rA a b≠0 then rA a b else eW l m
theorem xLb (a b:Int):dY a b=some (rA a b):=by
  unfold dY hU rA
  by_cases h:a<b
  · simp [h]
  · by_cases h2:b<a<;>simp [h,h2]
theorem pJ {a b:Int}:rA a b=0↔a=b:=by
  unfold rA
  split
  · constructor<;>omega
  · split<;>constructor<;>omega
theorem xCr (l m:List Int):kS l m=some (eW l m):=by
  unfold kS
  suffices H:∀ (l r:List Int) (k:Nat),m.drop k=r→k≤m.length→∀ (n:Int),n=k+l.length →
      kY (qW (σ:=Unit) (ρ:=Int) (fun(k25:Nat) (x27:Int) (s:Unit)=>
        match s with
        | _=>
          if (decide ((m.length:Int)≤(k25:Int))) then
            some (.ret 1)
          else
            xY (ix m (k25:Int)) fun z38=>
            xY (dY x27 z38) fun z45=>
            if (z45 != 0) then
              some (.ret z45)
            else
              some (.go ())) l k ()) (fun _=>if (decide (n<(m.length:Int))) then some (-1) else some 0)=some (eW l r) from H l m 0 (by simp) (by omega) _ (by simp)
  intro l
  induction l with
  | nil=>
    intro r k hr hk n hn;have hl:=congrArg List.length hr;rw[List.length_drop] at hl
    cases r with
    | nil=>
      have:¬ n<(m.length:Int):=by simp at hl hn;omega
      rw[forL_nil',thn_nx,if_neg (by simpa using this)]
      rfl
    | cons b r=>
      have:n<(m.length:Int):=by simp at hl hn;omega
      rw[forL_nil',thn_nx,if_pos (by simpa using this)]
      rfl
  | cons a l ih=>
    intro r k hr hk n hn;have hl:=congrArg List.length hr;rw[List.length_drop] at hl
    cases r with
    | nil=>
      have:(m.length:Int)≤(k:Int):=by simp at hl;omega
      rw[jL (r:=1) (by simp [this])]
      rfl
    | cons b r=>
      have h1:¬ (m.length:Int)≤(k:Int):=by simp at hl;omega
      have h2:m[k]?=some b:=by rw[← List.head?_drop,hr];rfl
      have h3:m.drop (k+1)=r:=by rw[← List.drop_drop,hr];rfl
      unfold eW
      by_cases hc:rA a b=0
      · rw[aJ (s':=()) (by simp [h1,zI h2,xLb,hc])]
        rw[show(if rA a b≠0 then rA a b else eW l r)=eW l r from if_neg (by simp [hc])];exact ih r (k+1) h3 (by simp at hl;omega) n (by rw[hn,List.length_cons];push_cast;omega)
      · rw[jL (r:=rA a b) (by simp [h1,zI h2,xLb,hc])]
        rw[if_pos hc]
        rfl
theorem xNc (l m:List Int) (hlen:l.length=m.length):gK l m=some (decide (eW l m<0)):=by
  unfold gK
  suffices H:∀ (l r:List Int) (k:Nat),m.drop k=r→l.length=r.length →
      kY (qW (σ:=Unit) (ρ:=Bool) (fun(k32:Nat) (x34:Int) (s:Unit)=>
        match s with
        | _=>
          xY (ix m (k32:Int)) fun z44=>
          if (x34 != z44) then
            some (.ret ((decide (x34<z44))))
          else
            some (.go ())) l k ()) (fun _=>some false)=some (decide (eW l r<0)) from H l m 0 (by simp) hlen
  intro l
  induction l with
  | nil=>
    intro r k hr hl
    cases r with
    | nil=>rfl
    | cons b r=>simp at hl
  | cons a l ih=>
    intro r k hr hl
    cases r with
    | nil=>simp at hl
    | cons b r=>
      have h2:m[k]?=some b:=by rw[← List.head?_drop,hr];rfl
      have h3:m.drop (k+1)=r:=by rw[← List.drop_drop,hr];rfl
      unfold eW
      by_cases hc:a=b
      · have hj:=pJ.2 hc
        rw[aJ (s':=()) (by simp [zI h2,hc])];rw[show(if rA a b≠0 then rA a b else eW l r)=eW l r from if_neg (by simp [hj])];exact ih r (k+1) h3 (by simpa using hl)
      · have hj:rA a b≠0:=fun h=>hc (pJ.1 h)
        rw[jL (r:=decide (a<b)) (by simp [zI h2,hc])];rw[if_pos hj]
        unfold rA
        by_cases hlt:a<b
        · simp [hlt]
        · by_cases hgt:b<a
          · simp [hlt,hgt]
          · omega
theorem xPo (s:Int) (x:Rel) (hN:x.tuples.length≤1048576):∃ b,lG s x=some b∧eM s x=some b∧(b=true→okS s=true∧okS x.arity=true∧(∀ t∈x.tuples,wU s t x.arity=true)∧∀ j t u,x.tuples[j]?=some t→x.tuples[j+1]?=some u→eW t u<0):=by
  unfold lG eM
  simp only[xDk,xFw,xJl,xKp,bnd_s]
  by_cases hs:okS s=true
  · by_cases ha:okS x.arity=true
    · simp only[hs,ha,Bool.not_true,Bool.false_eq_true,if_false,thn_nx]
      obtain⟨q,h1,h2,h3,h4⟩:=xIl (ρ:=Bool) (l:=x.tuples) (k:=0) (fun i=>(∀ j t,j<i→x.tuples[j]?=some t→wU s t x.arity=true)∧∀ j t u,j+1<i→x.tuples[j]?=some t→x.tuples[j+1]?=some u→eW t u<0) (fun r=>r=false)
        (f:=fun(k181:Nat) (x183:(List Int)) (s_1:Unit)=>
          kY (σ:=Bool) (
            xY (iJ s x.arity x183) fun z284=>
            if (!z284) then   some (.nx true) else   if (decide (0<(k181:Int))) then   xY (ck ((k181:Int) - 1)) fun z296=>
                xY (ix x.tuples z296) fun z298=>
                xY (gK z298 x183) fun z324=>
                some (.nx (!z324)) else   some (.nx false)) fun s262=>
          if s262 then
            some (.ret false)
          else
            some (.go ()))
        (g:=fun(k80:Nat) (x82:(List Int)) (s_1:Unit)=>
          kY (σ:=Bool) (
            xY (aK s x82 x.arity) fun z116=>
            if (!z116) then   some (.nx true) else   if (decide (0<(k80:Int))) then   xY (ck ((k80:Int) - 1)) fun z120=>
                xY (ix x.tuples z120) fun z122=>
                xY (kS z122 x82) fun z132=>
                some (.nx (decide (0≤z132))) else   some (.nx false)) fun s115=>
          if s115 then
            some (.ret false)
          else
            some (.go ()))
        ⟨fun j t hj=>by omega,fun j t u hj=>by omega⟩
        (fun j t hj hii=>by
          rw[Nat.zero_add] at hii ⊢;obtain⟨hi,hs2⟩:=hii;simp only[xIz hs,xHq hs,bnd_s]
          by_cases hv:wU s t x.arity=true
          · simp only[hv,Bool.not_true,Bool.false_eq_true,if_false]
            have hi2:∀ i u,i<j+1→x.tuples[i]?=some u→wU s u x.arity=true:=fun i u hlt hu=>by
              by_cases hij:i<j
              · exact hi i u hij hu
              · obtain rfl:i=j:=by omega
                rw[hj] at hu;rw[← Option.some.inj hu];exact hv
            by_cases h0:0<j
            · have hjl:j<x.tuples.length:=(List.getElem?_eq_some_iff.1 hj).1
              have hp:x.tuples[j - 1]?=some (x.tuples[j - 1]'(by omega)):=List.getElem?_eq_getElem (by omega);have hpv:=hi (j - 1) _ (by omega) hp;generalize x.tuples[j - 1]'(by omega)=p at hp hpv
              have hlen:p.length=t.length:=by
                unfold wU at hpv hv
                simp at hpv hv
                omega
              have hck:ck ((j:Int) - 1)=some ((j:Int) - 1):=kI (by omega) (by omega);have hx:ix x.tuples ((j:Int) - 1)=some p:=dX (by omega) (by rw[show((j:Int) - 1).toNat=j - 1 by omega];exact hp)
              have h0':(0:Int)<(j:Int):=by omega
              simp only[h0',decide_true,if_true,hck,hx,bnd_s,xNc p t hlen,xCr,thn_nx]
              by_cases hc:eW p t<0
              · have hc2:¬ 0≤eW p t:=by omega
                simp only[hc,hc2,decide_true,decide_false,Bool.not_true,Bool.false_eq_true,if_false];refine⟨none,rfl,rfl,fun _=>⟨hi2,fun i a b hib ha hb=>?_⟩,fun _ h=>nomatch h⟩
                by_cases hij:i+1<j
                · exact hs2 i a b hij ha hb
                · obtain rfl:j=i+1:=by omega
                  rw[show i+1 - 1=i by omega] at hp;rw[hp] at ha;rw[hj] at hb;rw[← Option.some.inj ha,← Option.some.inj hb];exact hc
              · have hc2:0≤eW p t:=by omega
                simp only[hc,hc2,decide_true,decide_false,Bool.not_false,if_true];exact⟨some false,rfl,rfl,(fun h=>nomatch h),fun r h=>(Option.some.inj h).symm⟩
            · have h0':¬ (0:Int)<(j:Int):=by omega
              simp only[h0',decide_false,Bool.false_eq_true,if_false,thn_nx];exact⟨none,rfl,rfl,fun _=>⟨hi2,fun i a b hib=>by omega⟩,fun _ h=>nomatch h⟩
          · have hv':wU s t x.arity=false:=by simpa using hv
            simp only[hv',Bool.not_false,if_true,thn_nx]
            exact⟨some false,rfl,rfl,(fun h=>nomatch h),fun r h=>(Option.some.inj h).symm⟩)
      rw[h1,h2]
      cases q with
      | some r=>exact⟨r,rfl,rfl,fun h=>by rw[h4 r rfl] at h;cases h⟩
      | none=>exact⟨true,rfl,rfl,fun _=>⟨trivial,trivial,(fun t ht=>by
          obtain⟨i,hi,rfl⟩:=List.mem_iff_getElem.1 ht
          exact(h3 rfl).1 i _ (by omega) (List.getElem?_eq_getElem hi)),fun j t u ht hu=>(h3 rfl).2 j t u (by have:=(List.getElem?_eq_some_iff.1 hu).1;omega) ht hu⟩⟩
    · have ha':okS x.arity=false:=by simpa using ha
      simp only[hs,ha',Bool.not_true,Bool.not_false,Bool.false_eq_true,if_false,if_true,thn_nx];exact⟨false,rfl,rfl,fun h=>nomatch h⟩
  · have hs':okS s=false:=by simpa using hs
    simp only[hs',Bool.not_false,if_true,thn_nx];exact⟨false,rfl,rfl,fun h=>nomatch h⟩
theorem xVv (s:Int) (x:Rel) (hN:x.tuples.length≤1048576):∃ b,lG s x=some b∧eM s x=some b∧(b=true→okS s=true∧okS x.arity=true∧∀ t∈x.tuples,wU s t x.arity=true):=by
  obtain⟨b,h1,h2,h3⟩:=xPo s x hN;exact⟨b,h1,h2,fun h=>⟨(h3 h).1,(h3 h).2.1,(h3 h).2.2.1⟩⟩
end Go.Proofs.YtfmnjkpddljdcaaGreatDoor
namespace Go.Proofs.YtfmnjkpddljdcaaGreatDoor
set_option linter.unusedVariables false
set_option linter.unusedSimpArgs false
def pW (s:Int) (x:Rel):Bool:=(eM s x).getD false
theorem xMa (s:Int) (x:Rel) (hN:x.tuples.length≤1048576):lG s x=some (pW s x)∧eM s x=some (pW s x)∧(pW s x=true→okS s=true∧okS x.arity=true∧∀ t∈x.tuples,wU s t x.arity=true):=by
  obtain⟨b,h1,h2,h3⟩:=xVv s x hN
  have:pW s x=b:=by unfold pW;rw[h2];rfl
  rw[this];exact⟨h1,h2,h3⟩
theorem xHl (l:List Rel) (p:Rel→Bool) (f:Rel→Option Bool) (hf:∀ x∈l,f x=some (p x)):aO l f=some (l.any p):=by
  obtain⟨i,h1,h2⟩:=rS l p f hf
  unfold aO
  rw[show dA l f=some i from h1,bnd_s,h2]
def tR (x:Template):Bool:=okS x.size && (decide ((x.rels.length:Int)≤6) && x.rels.all (pW x.size))
def xAv (x:Template):Prop:=∀ r∈x.rels,r.tuples.length≤1048576
theorem xDc (x:Template) (hx:xAv x):gL x=some (tR x):=by
  unfold gL
  rw[gZ (fun _ r=>if !pW x.size r then some false else none) (fun j r hj=>by
    simp only[(xMa x.size r (hx r (List.mem_of_getElem? hj))).1,bnd_s]
    by_cases hv:pW x.size r=true
    · simp [hv,wR]
    · simp [hv,wR])]
  rw[uT]
  unfold tR
  by_cases ha:x.rels.all (pW x.size)=true
  · have:x.rels.any (fun r=>!pW x.size r)=false:=by simpa using ha
    rw[this,ha];simp only[xHp,Bool.false_eq_true,if_false,thn_nx,xDk,bnd_s]
    by_cases hs:okS x.size=true
    · simp [hs]
    · have hs':okS x.size=false:=by simpa using hs
      simp [hs']
  · have ha':x.rels.all (pW x.size)=false:=by simpa using ha
    have:x.rels.any (fun r=>!pW x.size r)=true:=by simpa using ha'
    rw[this,ha']
    simp [xHp]
theorem xAm (x:Template) (hx:xAv x):dG x=some (tR x):=by
  unfold dG tR
  rw[xFw,xHl x.rels (fun r=>!pW x.size r) _ (fun r hr=>by
    unfold fK
    rw[show Rel.mk r.arity r.tuples=r from rfl,show(Template.mk x.size x.rels).size=x.size from rfl,(xMa x.size r (hx r hr)).2.1]
    rfl)]
  simp only[bnd_s]
  by_cases hs:okS x.size=true
  · by_cases hl:(x.rels.length:Int)≤6
    · simp only[hs,hl,decide_true,if_true,thn_nx,Bool.true_and]
      congr 1
      rw[Bool.eq_iff_iff]
      simp
    · simp [hs,hl]
  · have hs':okS x.size=false:=by simpa using hs
    simp [hs']
end Go.Proofs.YtfmnjkpddljdcaaGreatDoor
