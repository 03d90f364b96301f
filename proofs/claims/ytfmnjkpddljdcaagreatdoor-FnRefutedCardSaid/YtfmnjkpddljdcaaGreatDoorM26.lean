import Derived.Test.YtfmnjkpddljdcaaGreatDoorM21
import Derived.Test.YtfmnjkpddljdcaaGreatDoorM22
namespace Go.Proofs.YtfmnjkpddljdcaaGreatDoor
set_option linter.unusedVariables false
set_option linter.unusedSimpArgs false
inductive Stp (x:Template) (y:Instance):List l08Level→Line→List l08Level→Prop
  | rem {S:List l08Level} {D:List (List Int)} {c:Literal} {s:ArcStep}:xGa x y D s→Stp x y (S++[⟨D,c⟩]) (Line.mk 2 s.var s.value s.con) (S++[⟨xFo D s,c⟩])
  | cho {S:List l08Level} {D:List (List Int)} {c:Literal} {v a:Int} {q:List Int}:(0≤v∧v<y.vars)→D[v.toNat]?=some q→a∈q→2≤q.length→Stp x y (S++[⟨D,c⟩]) (Line.mk 1 v a 0) ((S++[⟨D,c⟩])++[⟨D.set v.toNat [a],⟨v,a⟩⟩])
  | emp {S:List l08Level} {D0 D:List (List Int)} {c0 c:Literal} {i:Int} {q:List Int}:(0≤i∧i<y.vars)→D[i.toNat]?=some []→(0≤c.var∧c.var<y.vars)→D0[c.var.toNat]?=some q→Stp x y ((S++[⟨D0,c0⟩])++[⟨D,c⟩]) (Line.mk 3 i 0 0) (S++[⟨D0.set c.var.toNat (q.filter (· != c.value)),c0⟩])
  | fin {D:List (List Int)} {c:Literal} {i:Int}:(0≤i∧i<y.vars)→D[i.toNat]?=some []→Stp x y [⟨D,c⟩] (Line.mk 3 i 0 0) []
inductive Runs (x:Template) (y:Instance):List l08Level→List Line→List l08Level→Prop
  | nil {S:List l08Level}:Runs x y S [] S
  | cons {S T U:List l08Level} {l:Line} {ls:List Line}:Stp x y S l T→Runs x y T ls U→Runs x y S (l::ls) U
section
variable {x:Template} {y:Instance}
theorem Runs.app {S T U:List l08Level} {a b:List Line} (h:Runs x y S a T) (k:Runs x y T b U):Runs x y S (a++b) U:=by
  induction h with
  | nil=>exact k
  | cons hs _ ih=>exact .cons hs (ih k)
theorem Runs.split {a:List Line}:∀ {S U:List l08Level} {b:List Line},Runs x y S (a++b) U→∃ T,Runs x y S a T∧Runs x y T b U:=by
  induction a with
  | nil=>intro S U b h;exact⟨S,.nil,h⟩
  | cons l a ih=>
    intro S U b h
    cases h with
    | cons hs hr=>
      obtain⟨T,h1,h2⟩:=ih hr;exact⟨T,.cons hs h1,h2⟩
theorem Stp.ne {S T:List l08Level} {l:Line} (h:Stp x y S l T):S≠[]:=by
  cases h<;>simp
theorem xTd {D D':List (List Int)} {seg:List Line} (hr:Rn x y D seg D'):∀ (S:List l08Level) (c:Literal),Runs x y (S++[⟨D,c⟩]) seg (S++[⟨D',c⟩]):=by
  induction hr with
  | nil=>intro S c;exact .nil
  | rem _ hs ih=>intro S c;exact(ih S c).app (.cons (.rem hs) .nil)
  | @pair D D1 D2 l s v a i q _ hv hq ha h2q _ hi hd ih1 ih2=>
    intro S c;refine(ih1 S c).app (.cons (.cho hv hq ha h2q) ((ih2 (S++[⟨D1,c⟩]) ⟨v,a⟩).app (.cons (.emp (c:=⟨v,a⟩) hi hd hv hq) .nil)))
structure LvOk (x:Template) (y:Instance) (l:l08Level):Prop where
  ok:DomOk y.vars.toNat 40 l.domains
  rg:Rg x l.domains
  up:∀ d∈l.domains,d.Pairwise (· < ·)
def xHn (x:Template) (y:Instance) (S:List l08Level):Prop:=∀ l∈S,LvOk x y l
theorem LvOk.set {D:List (List Int)} {c c':Literal} {i:Nat} {q w:List Int} (h:LvOk x y ⟨D,c⟩) (hq:D[i]?=some q) (hw:w.Sublist q):LvOk x y ⟨D.set i w,c'⟩:=by
  have hm:=List.mem_of_getElem? hq;refine⟨h.ok.set hq ((h.ok.nd q hm).sublist hw) hw.length_le,fun j b hb=>h.rg j b (sV hq (fun z hz=>hw.subset hz) j b hb),fun d hd=>?_⟩
  rcases mem_set hd with hd | rfl
  · exact h.up d hd
  · exact(h.up q hm).sublist hw
theorem Stp.ok {S T:List l08Level} {l:Line} (h:Stp x y S l T) (hS:xHn x y S):xHn x y T:=by
  cases h with
  | @rem S D c s hs=>
    intro z hz
    rcases List.mem_append.1 hz with hz | hz
    · exact hS z (List.mem_append_left _ hz)
    · rw[List.mem_singleton.1 hz]
      have hD:=hS ⟨D,c⟩ (by simp)
      have hvl:s.var.toNat<D.length:=by have:=hs.1;have:=hD.ok.len;simp only at this;omega
      have hget:D[s.var.toNat]?=some (D.getD s.var.toNat []):=by rw[List.getD_eq_getElem?_getD,List.getElem?_eq_getElem hvl];rfl
      exact hD.set hget List.filter_sublist
  | @cho S D c v a q hv hq ha h2=>
    intro z hz
    rcases List.mem_append.1 hz with hz | hz
    · exact hS z hz
    · rw[List.mem_singleton.1 hz]
      exact(hS ⟨D,c⟩ (by simp)).set hq (List.singleton_sublist.2 ha)
  | @emp S D0 D c0 c i q hi hd hc hq=>
    intro z hz
    rcases List.mem_append.1 hz with hz | hz
    · exact hS z (by simp [hz])
    · rw[List.mem_singleton.1 hz]
      exact(hS ⟨D0,c0⟩ (by simp)).set hq List.filter_sublist
  | fin _ _=>intro z hz;cases hz
theorem Runs.ok {S T:List l08Level} {ls:List Line} (h:Runs x y S ls T):xHn x y S→xHn x y T:=by
  induction h with
  | nil=>exact id
  | cons hs _ ih=>exact fun h=>ih (hs.ok h)
theorem Stp.len {S T:List l08Level} {l:Line} (h:Stp x y S l T):T.length≤S.length+1:=by
  cases h<;>simp
theorem Stp.impl (h:Ri x y) {N:Nat} (hN:100≤N) {S T:List l08Level} {l:Line} (hs:Stp x y S l T) (hS:xHn x y S) (hl:S.length≤100000) :
    zP N x.size x.rels y.vars y.cons (S.map l08Level.domains) (S.map l08Level.chosen) l=some (true,T.map l08Level.domains,T.map l08Level.chosen):=by
  cases hs with
  | @rem S D c s hs=>
    have hD:=(hS ⟨D,c⟩ (by simp)).ok;simp only[List.length_append,List.length_singleton] at hl;rw[List.map_append,List.map_append,List.map_append,List.map_append];exact xRa h hN (by simp;omega) hD hs
  | @cho S D c v a q hv hq ha h2=>
    have hD:=(hS ⟨D,c⟩ (by simp)).ok;simp only[List.length_append,List.length_singleton] at hl;have:=xJi h (N:=N) (S:=S.map l08Level.domains) (C:=(S++[l08Level.mk D c]).map l08Level.chosen) (by simp;omega) (by simp;omega) hD hv hq ha h2;simp only[List.map_append,List.map_cons,List.map_nil] at this ⊢;exact this
  | @emp S D0 D c0 c i q hi hd hc hq=>
    have hD:=(hS ⟨D0,c0⟩ (by simp)).ok;simp only[List.length_append,List.length_singleton] at hl;have:=xKd h hN (S:=S.map l08Level.domains) (D:=D) (C:=(S++[l08Level.mk D0 c0]).map l08Level.chosen) (l:=c) (by simp;omega) (by simp) hD hi hd hc.1 hq;simp only[List.map_append,List.map_cons,List.map_nil] at this ⊢;exact this
  | fin hi hd=>exact xQy h hi hd
theorem Runs.impl (h:Ri x y) {N:Nat} (hN:100≤N) {S T:List l08Level} {ls:List Line} (hr:Runs x y S ls T):∀ (rest:List Line) (k:Nat),xHn x y S→S.length+ls.length≤100000 →
    qW (yB N x y) (ls++rest) k (S.map l08Level.domains,S.map l08Level.chosen)=qW (yB N x y) rest (k+ls.length) (T.map l08Level.domains,T.map l08Level.chosen):=by
  induction hr with
  | nil=>intro rest k _ _;simp
  | @cons S T U l ls hs hr ih=>
    intro rest k hS hl;rw[List.length_cons] at hl;have:=hs.len;rw[List.cons_append,aJ (xUp (hs.impl h hN hS (by omega))),ih rest (k+1) (hs.ok hS) (by omega),List.length_cons,show k+1+ls.length=k+(ls.length+1) by omega]
end
end Go.Proofs.YtfmnjkpddljdcaaGreatDoor
namespace Go.Proofs.YtfmnjkpddljdcaaGreatDoor
set_option linter.unusedVariables false
set_option linter.unusedSimpArgs false
section
variable {x:Template} {y:Instance}
theorem xOg (h:Ri x y) {N:Nat} (hN:10≤N) {D:List (List Int)} {s:ArcStep} (hl:D.length=y.vars.toNat) (hs:xGa x y D s):iC N x y D s=some true:=by
  obtain⟨⟨v0,v1⟩,hv,c0,c,p,hc,hp,hb⟩:=hs;have hvs:=h.vars;have hcl:=h.cons;have hci:=(List.getElem?_eq_some_iff.1 hc).1;have hcok:=h.cok c (List.mem_of_getElem? hc)
  unfold iC
  have e1:(decide (0≤s.var) && decide (s.var≤y.vars - 1))=true:=by simp;omega
  have e2:(decide (0≤s.con) && decide (s.con≤(y.cons.length:Int) - 1))=true:=by simp;omega
  have e3:(D.getD s.var.toNat []).any (· == s.value)=true:=List.any_eq_true.2 ⟨s.value,hv,by simp⟩;rw[kI (by omega) (by omega),bnd_s,mJ,bnd_s,e1,Bool.not_true,if_neg (by simp),kI (by omega) (by omega),bnd_s,mJ,bnd_s,e2,Bool.not_true,if_neg (by simp),ixD v0 (by omega),bnd_s,xAl,bnd_s,e3,Bool.not_true,thn_nx,if_neg (by simp),dX c0 hc,bnd_s];rw[xEq (q:=fun j=>(c.scope.getD j 0==s.var) && !rM x c D j s.value) c.scope 0 (fun j z hj=>?_) p (List.getElem?_eq_some_iff.1 hp).1 (by rw[Nat.zero_add,List.getD_eq_getElem?_getD,hp,hb];simp),thn_ret];rw[Nat.zero_add,List.getD_eq_getElem?_getD,hj,Option.getD_some];obtain⟨_,h1⟩:=wO (N:=N) (dom:=D) (p:=j) s.value hN (hl.symm ▸ hcok) (List.getElem?_eq_some_iff.1 hj).1
  by_cases he:(z==s.var)=true
  · simp only[he,if_true,h1,bnd_s,thn_nx,Bool.true_and]
    cases rM x c D j s.value<;>rfl
  · have he':(z==s.var)=false:=by simpa using he
    simp only[he',Bool.false_eq_true,if_false,thn_nx,Bool.false_and]
theorem xCg {N:Nat} {S:List l08Level} {D:List (List Int)} {ch:Literal} {q:List Int} {k v a c:Int} (hv:0≤v∧v<y.vars) (hS:S.length≤1000000) (hL:eP ⟨k,v,a,c⟩=true) (hq:D[v.toNat]?=some q) :
    cK N x y (S++[l08Level.mk D ch]) (Line.mk k v a c)=(if (k==1) then
   kY (σ:=Bool) (
    xY (dS q a) fun z86=>
    if (!z86) then some (.nx true) else some (.nx (decide ((q.length:Int)<2)))) fun s82=>
   if s82 then
    some (false,S++[l08Level.mk D ch])
   else
    xY (eZ D) fun z91=>
    xY (ix z91 v) fun z104=>
    xY (ap (S++[l08Level.mk D ch]) ([(l08Level.mk (z91.set (v).toNat ([a])) (Literal.mk v a))])) fun z131=>
    some (true,z131)
  else
   if (k==2) then
    xY (iC N x y D (ArcStep.mk v a c)) fun z185=>
    if (!z185) then
     some (false,S++[l08Level.mk D ch])
    else
     xY (aE q a) fun z203=>
     some (true,((S++[l08Level.mk D ch]).set ((S.length:Int)).toNat (l08Level.mk (D.set (v).toNat z203) ch)))
   else
    if (decide (0<(q.length:Int))) then
     some (false,S++[l08Level.mk D ch])
    else
     xY (sl (S++[l08Level.mk D ch]) 0 (S.length:Int)) fun z238=>
     if (decide (1<((S++[l08Level.mk D ch]).length:Int))) then
      xY (ck (((S++[l08Level.mk D ch]).length:Int) - 2)) fun z243=>
      xY (ix z238 z243) fun z245=>
      xY (ix z245.domains ch.var) fun z258=>
      xY (aE z258 ch.value) fun z264=>
      some (true,(z238.set (z243).toNat (l08Level.mk (z245.domains.set (ch.var).toNat z264) z245.chosen)))
     else
      some (true,z238)):=by
  unfold cK
  have hl:(((S++[l08Level.mk D ch]).length:Int) - 1)=(S.length:Int):=by simp
  have h0:(((S++[l08Level.mk D ch]).length:Int)==0)=false:=by simp;omega
  have h1:decide (y.vars≤v)=false:=by simp;omega
  have h2:ix D v=some q:=dX hv.1 hq;rw[h0,if_neg (by simp),xKg,hL,bnd_s,Bool.not_true,if_neg (by simp)];simp only[h1,thn_nx,Bool.false_eq_true,if_false,hl,kI (x:=(S.length:Int)) (by omega) (by omega),bnd_s,sJ,h2]
theorem Stp.spec (h:Ri x y) {N:Nat} (hN:100≤N) {S T:List l08Level} {l:Line} (hs:Stp x y S l T) (hS:xHn x y S) (hl:S.length≤100000) :
    eP l=true∧cK N x y S l=some (true,T):=by
  have hvs:=h.vars;have hsz:=h.size;have hcl:=h.cons
  cases hs with
  | @rem S D c s hs=>
    have hD:=hS ⟨D,c⟩ (by simp);have hDl:D.length=y.vars.toNat:=hD.ok.len;have hDe:tot D≤40:=hD.ok.le;simp only[List.length_append,List.length_singleton] at hl;obtain⟨hv,hval,c0,cc,p,hcc,hp,hb⟩:=hs;have hci:=(List.getElem?_eq_some_iff.1 hcc).1;have hra:=hD.rg _ _ hval
    have hvl:s.var.toNat<D.length:=by omega
    have hget:D[s.var.toNat]?=some (D.getD s.var.toNat []):=by rw[List.getD_eq_getElem?_getD,List.getElem?_eq_getElem hvl];rfl
    have hqt:=fA (List.mem_of_getElem? hget);have hB:eP ⟨2,s.var,s.value,s.con⟩=true:=pP (by omega) (by omega) (by omega) (by omega) (fun e=>absurd rfl e) (fun e=>absurd e (by decide));refine⟨hB,?_⟩;rw[xCg hv (by omega) hB hget,if_neg (by decide),if_pos (by decide),xOg h (by omega) hDl ⟨hv,hval,c0,cc,p,hcc,hp,hb⟩,bnd_s,if_neg (by simp),nC _ _ (by omega),bnd_s,xAe]
    rfl
  | @cho S D c v a q hv hq ha h2=>
    have hD:=hS ⟨D,c⟩ (by simp);have hDl:D.length=y.vars.toNat:=hD.ok.len;have hDe:tot D≤40:=hD.ok.le;simp only[List.length_append,List.length_singleton] at hl;have hra:=hD.rg v.toNat a (by rw[List.getD_eq_getElem?_getD,hq];exact ha);have hB:eP ⟨1,v,a,0⟩=true:=pP (by omega) (by omega) (by omega) (by omega) (fun _=>rfl) (fun e=>absurd e (by decide));have e1:q.any (· == a)=true:=List.any_eq_true.2 ⟨a,ha,by simp⟩
    have e2:decide ((q.length:Int)<2)=false:=by simp;omega
    refine⟨hB,?_⟩;rw[xCg hv (by omega) hB hq,if_pos (by decide),xAl,bnd_s,e1,Bool.not_true,if_neg (by simp),e2,thn_nx,if_neg (by simp),xAa D (fun d hd=>by have:=fA hd;omega) (by omega),bnd_s,dX hv.1 hq,bnd_s,bS (by simp only[List.length_append,List.length_cons,List.length_nil];omega),bnd_s]
  | @emp S D0 D c0 c i q hi hd hc hq=>
    have hD:=hS ⟨D0,c0⟩ (by simp);have hDe:tot D0≤40:=hD.ok.le;have hqt:=fA (List.mem_of_getElem? hq);simp only[List.length_append,List.length_singleton] at hl;have hB:eP ⟨3,i,0,0⟩=true:=pP (by omega) (by omega) (by omega) (by omega) (fun _=>rfl) (fun _=>rfl);refine⟨hB,?_⟩
    have hn2:(((S++[(⟨D0,c0⟩:l08Level)])++[(⟨D,c⟩:l08Level)]).length:Int) - 2=(S.length:Int):=by simp<;>omega
    rw[xCg hi (by simp<;>omega) hB hd,if_neg (by decide),if_neg (by decide),if_neg (by simp),xGx,bnd_s,if_pos (by simp<;>omega),hn2,kI (by omega) (by omega),bnd_s,sJ,bnd_s,dX hc.1 hq,bnd_s,nC _ _ (by omega),bnd_s,xAe]
  | @fin D c i hi hd=>
    have hB:eP ⟨3,i,0,0⟩=true:=pP (by omega) (by omega) (by omega) (by omega) (fun _=>rfl) (fun _=>rfl);refine⟨hB,?_⟩;have:=xCg (x:=x) (y:=y) (N:=N) (S:=[]) (D:=D) (ch:=c) (k:=3) (a:=0) (c:=0) hi (by simp) hB hd;rw[List.nil_append] at this;rw[this,if_neg (by decide),if_neg (by decide),if_neg (by simp)]
    rfl
def xRw (N:Nat) (x:Template) (y:Instance):Nat→Line→List l08Level→Option (Ctl (List l08Level) ((Template×Instance×(List l08Level))×Int)):=fun(k61:Nat) (x63:Line) (s55:(List l08Level))=>
   xY (cK N x y s55 x63) fun z70=>
   if (!z70.1) then
    some (.ret ((x,y,z70.2),(k61:Int)))
   else
    some (.go z70.2)
theorem Runs.spec (h:Ri x y) {N:Nat} (hN:100≤N) {S T:List l08Level} {ls:List Line} (hr:Runs x y S ls T):∀ (rest:List Line) (k:Nat),xHn x y S→S.length+ls.length≤100000 →
    qW (xRw N x y) (ls++rest) k S=qW (xRw N x y) rest (k+ls.length) T∧∀ l∈ls,eP l=true:=by
  induction hr with
  | nil=>intro rest k _ _;exact⟨by simp,fun l hl=>nomatch hl⟩
  | @cons S T U l ls hs hr ih=>
    intro rest k hS hl;rw[List.length_cons] at hl;have:=hs.len;obtain⟨h1,h2⟩:=hs.spec h hN hS (by omega);obtain⟨h3,h4⟩:=ih rest (k+1) (hs.ok hS) (by omega);refine⟨?_,fun z hz=>?_⟩
    · rw[List.cons_append,aJ (s':=T) (by unfold xRw;rw[h2,bnd_s];rfl),h3,List.length_cons,show k+1+ls.length=k+(ls.length+1) by omega]
    · rcases List.mem_cons.1 hz with rfl | hz
      · exact h1
      · exact h4 z hz
end
end Go.Proofs.YtfmnjkpddljdcaaGreatDoor
namespace Go.Proofs.YtfmnjkpddljdcaaGreatDoor
set_option linter.unusedVariables false
set_option linter.unusedSimpArgs false
section
variable {x:Template} {y:Instance}
def S0 (x:Template) (y:Instance):List l08Level:=[⟨dV x y,⟨0,0⟩⟩]
theorem yJ (h:Ri x y):xHn x y (S0 x y):=fun l hl=>by
  obtain rfl:=List.mem_singleton.1 hl;refine⟨yZ h,xIa (by have:=h.size;omega),fun d hd=>?_⟩
  have e:d=nL 0 x.size.toNat:=by
    have h1:d∈List.replicate y.vars.toNat (nL 0 x.size.toNat):=hd;exact List.eq_of_mem_replicate h1
  rw[e]
  unfold nL
  rw[List.pairwise_map];exact(List.pairwise_lt_range (n:=x.size.toNat)).imp (fun h=>by omega)
theorem xMv {seg:List Line} {i:Int} {d2:List (List Int)} (hr:Rn x y (dV x y) seg d2) (hi:0≤i∧i<y.vars) (hd:d2[i.toNat]?=some []):Runs x y (S0 x y) (seg++[Line.mk 3 i 0 0]) []:=
  (xTd hr [] ⟨0,0⟩).app (.cons (.fin hi hd) .nil)
theorem xOb {L:List Line} (hr:Runs x y (S0 x y) L []) {k:Nat} (hk:k<L.length):∃ T l,Runs x y (S0 x y) (L.take k) (T++[l]):=by
  rw[← List.take_append_drop k L] at hr;obtain⟨T,h1,h2⟩:=hr.split
  have hne:T≠[]:=by
    cases hd:L.drop k with
    | nil=>have:=congrArg List.length hd;rw[List.length_drop] at this;simp at this;omega
    | cons a b=>
      rw[hd] at h2
      cases h2 with
      | cons hs _=>exact hs.ne
  rw[← List.dropLast_concat_getLast hne] at h1;exact⟨_,_,h1⟩
theorem uP (h:Ri x y) {N:Nat} (hN:100≤N) {A:List Line} {T:List l08Level} (hr:Runs x y (S0 x y) A T) (hA:A.length≤4000):cW N x y A=some ((x.size,x.rels,y.vars,y.cons,T.map l08Level.domains,T.map l08Level.chosen),0,0):=by
  have h1:=hr.impl h hN [] 0 (yJ h) (by simp [S0];omega);rw[List.append_nil] at h1;exact xHu h hA (by show qW (yB N x y) A 0 ((S0 x y).map l08Level.domains,(S0 x y).map l08Level.chosen)=_;rw[h1];rfl)
theorem walk_T (h:Ri x y) {N:Nat} (hN:100≤N) {A:List Line} {T:List l08Level} (hr:Runs x y (S0 x y) A T) (hA:A.length≤4000):jJ N x y A=some ((x,y,T),-1):=by
  have hv:=h.vars;have d2:fL x y=some (dV x y):=xGf h.tv hv;have h1:=(hr.spec h hN [] 0 (yJ h) (by simp [S0];omega)).1;rw[List.append_nil] at h1
  unfold jJ nA
  rw[d2,bnd_s,bnd_s]
  show kY (qW (xRw N x y) A 0 (S0 x y)) _=_
  rw[h1]
  rfl
theorem xKq (h:Ri x y) {N:Nat} (hN:100≤N) {A:List Line} {T:List l08Level} {l:l08Level} (hr:Runs x y (S0 x y) A (T++[l])) (hA:A.length≤4000):zO N x y A=some ((A.length:Int),8):=by
  unfold zO
  rw[show(Template.mk x.size x.rels)=x from rfl,show(Instance.mk y.vars y.cons)=y from rfl,uP h hN hr hA,bnd_s,if_neg (by simp),if_pos (by simp)]
theorem xJu (h:Ri x y) {N:Nat} (hN:100≤N) {A:List Line} (hr:Runs x y (S0 x y) A []) (hA:A.length≤4000):zO N x y A=some ((A.length:Int),0):=by
  unfold zO
  rw[show(Template.mk x.size x.rels)=x from rfl,show(Instance.mk y.vars y.cons)=y from rfl,uP h hN hr hA,bnd_s,if_neg (by simp),if_neg (by simp)]
theorem xKb (h:Ri x y) {N:Nat} (hN:100≤N) {A:List Line} (hr:Runs x y (S0 x y) A []) (hA:A.length≤4000):dR N x y A=some ((A.length:Int),0):=by
  unfold dR iD
  rw[show(Template.mk x.size x.rels)=x from rfl,show(Instance.mk y.vars y.cons)=y from rfl,h.inst.1,bnd_s,if_neg (by simp),if_neg (by simp;omega),bnd_s,if_neg (by simp),walk_T h hN hr hA,bnd_s]
  rfl
theorem xPj (h:Ri x y) {N:Nat} (hN:100≤N) {A:List Line} {T:List l08Level} {l:l08Level} (hr:Runs x y (S0 x y) A (T++[l])) (hA:A.length≤4000) (hT:T.length≤100000):bY N x y A=some (l.domains,(T.length:Int),0):=by
  have hl:=(hr.ok (yJ h) l (by simp)).ok;have hle:=hl.le;have hlen:=hl.len;have hv:=h.vars
  have e:((((T++[l]).map l08Level.domains).length:Int) - 1)=(T.length:Int):=by simp
  have e2:ix ((T++[l]).map l08Level.domains) (T.length:Int)=some l.domains:=by
    rw[List.map_append,List.map_cons,List.map_nil];have:=sJ (T.map l08Level.domains) l.domains
    rwa [List.length_map] at this
  unfold bY
  rw[show(Template.mk x.size x.rels)=x from rfl,show(Instance.mk y.vars y.cons)=y from rfl,uP h hN hr hA,bnd_s,if_neg (by simp)]
  dsimp only
  rw[if_neg (by simp;omega),e,kI (by omega) (by omega),bnd_s,e2,bnd_s,tL _ (fun d hd=>by have:=fA hd;omega) (by omega),bnd_s]
theorem xQk (h:Ri x y) {N:Nat} (hN:100≤N) {A:List Line} {T:List l08Level} {l:l08Level} (hr:Runs x y (S0 x y) A (T++[l])) (hA:A.length≤4000) (hT:T.length≤100000):fT N x y A=some (l.domains,(T.length:Int),0):=by
  have e:(((T++[l]).length:Int) - 1)=(T.length:Int):=by simp
  unfold fT iD
  rw[show(Template.mk x.size x.rels)=x from rfl,show(Instance.mk y.vars y.cons)=y from rfl,h.inst.1,bnd_s,if_neg (by simp),if_neg (by simp;omega),bnd_s,if_neg (by simp),walk_T h hN hr hA,bnd_s]
  dsimp only
  rw[if_neg (by simp),if_neg (by simp;omega),e,kI (by omega) (by omega),bnd_s,sJ,bnd_s]
theorem xRb (h:Ri x y) {N:Nat} (hN:100≤N) {A:List Line} (hr:Runs x y (S0 x y) A []) (hA:A.length≤4000):bY N x y A=some ([],0,4):=by
  unfold bY
  rw[show(Template.mk x.size x.rels)=x from rfl,show(Instance.mk y.vars y.cons)=y from rfl,uP h hN hr hA,bnd_s]
  rfl
theorem xKm (h:Ri x y) {N:Nat} (hN:100≤N) {A:List Line} (hr:Runs x y (S0 x y) A []) (hA:A.length≤3999) (l:Line):zO N x y (A++[l])=some ((A.length:Int),8):=by
  have hv:=h.vars;have d1:cN x y=some (dV x y):=xAz h.tv hv;have h1:=hr.impl h hN [l] 0 (yJ h) (by simp [S0];omega)
  have h2:zP N x.size x.rels y.vars y.cons [] [] (Line.mk l.kind l.var l.value l.con)=some (false,[],[]):=by
    unfold zP
    rw[kI (by simp) (by simp),bnd_s,if_pos (by simp)]
    rfl
  have h3:qW (yB N x y) (A++[l]) 0 ([dV x y],[Literal.mk 0 0])=some (.ret ((0,[],0,[],[],[]),(A.length:Int),8)):=by
    show qW (yB N x y) (A++[l]) 0 ((S0 x y).map l08Level.domains,(S0 x y).map l08Level.chosen)=_
    rw[h1];refine jL ?_
    unfold yB
    simp only[List.map_nil,h2,bnd_s,Bool.not_false,if_true,Nat.zero_add]
  have h4:cW N x y (A++[l])=some ((0,[],0,[],[],[]),(A.length:Int),8):=by
    unfold cW fH
    rw[show(Template.mk x.size x.rels)=x from rfl,show(Instance.mk y.vars y.cons)=y from rfl,h.inst.2,bnd_s,if_neg (by simp),if_neg (by simp;omega),d1,bnd_s,bnd_s]
    show kY (qW (yB N x y) (A++[l]) 0 ([dV x y],[Literal.mk 0 0])) _=_
    rw[h3,thn_ret]
  unfold zO
  rw[show(Template.mk x.size x.rels)=x from rfl,show(Instance.mk y.vars y.cons)=y from rfl,h4,bnd_s]
  rfl
def xIc : Nat → Line → Int × Int → Option (Ctl (Int × Int) (Int × Int)) := fun (k48 : Nat) (x50 : Line) (s : Int × Int) =>
     match s with
     | (s40,s42)=>
     if (decide (s40<0)) then
      some (.ret (0,4))
     else
      if (x50.kind==1) then
       xY (ck (s40+1)) fun z65=>
       some (.go (z65,(if s42<z65 then z65 else s42)))
      else
       if (x50.kind==3) then
        xY (ck (s40 - 1)) fun z68=>
        some (.go (z68,(if s42<z68 then z68 else s42)))
       else
        some (.go (s40,(if s42<s40 then s40 else s42)))
theorem Stp.dep {S T:List l08Level} {l:Line} (hs:Stp x y S l T) (hl:S.length≤100000) (k:Nat) (m:Int):∃ m',xIc k l ((S.length:Int) - 1,m)=some (.go ((T.length:Int) - 1,m'))∧m≤m'∧(T.length:Int) - 1≤m':=by
  have key:∀ (a b:Int),∃ m',(if a<b then b else a)=m'∧a≤m'∧b≤m':=fun a b=>by
    by_cases h:a<b
    · exact⟨b,if_pos h,by omega,by omega⟩
    · exact⟨a,if_neg h,by omega,by omega⟩
  obtain⟨m',h1,h2,h3⟩:=key m ((T.length:Int) - 1);refine⟨m',?_,h2,h3⟩
  cases hs with
  | @rem S D c s _=>
    unfold xIc
    simp only[List.length_append,List.length_singleton] at h1 hl ⊢;rw[if_neg (by simp),if_neg (by decide),if_neg (by decide),h1]
  | @cho S D c v a q _ _ _ _=>
    unfold xIc
    simp only[List.length_append,List.length_singleton] at h1 hl ⊢
    have e:(((S.length+1:Nat):Int) - 1)+1=((S.length+1+1:Nat):Int) - 1:=by omega
    rw[if_neg (by simp),if_pos (by decide),e,kI (by omega) (by omega),bnd_s,h1]
  | @emp S D0 D c0 c i q _ _ _ _=>
    unfold xIc
    simp only[List.length_append,List.length_singleton] at h1 hl ⊢
    have e:(((S.length+1+1:Nat):Int) - 1) - 1=((S.length+1:Nat):Int) - 1:=by omega
    rw[if_neg (by simp;omega),if_neg (by decide),if_pos (by decide),e,kI (by omega) (by omega),bnd_s,h1]
  | @fin D c i _ _=>
    unfold xIc
    simp only[List.length_singleton,List.length_nil] at h1 hl ⊢;rw[if_neg (by simp),if_neg (by decide),if_pos (by decide)]
    have e:((1:Nat):Int) - 1 - 1=((0:Nat):Int) - 1:=by omega
    rw[e,kI (by omega) (by omega),bnd_s,h1]
theorem Runs.dep {S T:List l08Level} {ls:List Line} (hr:Runs x y S ls T):∀ (k:Nat) (m:Int) (rest:List Line),S.length+ls.length≤100000→(S.length:Int) - 1≤m→∃ m',qW xIc (ls++rest) k ((S.length:Int) - 1,m)=qW xIc rest (k+ls.length) ((T.length:Int) - 1,m')∧m≤m'∧(T.length:Int) - 1≤m':=by
  induction hr with
  | nil=>intro k m rest _ hm;exact⟨m,by simp,by omega,hm⟩
  | @cons S T U l ls hs hr ih=>
    intro k m rest hl hm;rw[List.length_cons] at hl;have:=hs.len;obtain⟨m1,h1,h2,h3⟩:=hs.dep (by omega) k m;obtain⟨m2,h4,h5,h6⟩:=ih (k+1) m1 rest (by omega) h3;exact⟨m2,by rw[List.cons_append,aJ h1,h4,List.length_cons,show k+1+ls.length=k+(ls.length+1) by omega],by omega,h6⟩
theorem xKi {A B:List Line} {T:List l08Level} {l:l08Level} (h1:Runs x y (S0 x y) A (T++[l])) (h2:Runs x y (T++[l]) B []) (hl:(A++B).length≤4000):∃ m,lV (A++B)=some (m,0)∧(T.length:Int)≤m:=by
  rw[List.length_append] at hl;obtain⟨m1,a1,a2,a3⟩:=h1.dep 0 0 B (by simp [S0];omega) (by simp [S0])
  have hT:(T++[l]).length≤1+A.length:=by
    have key:∀ {S U:List l08Level} {ls:List Line},Runs x y S ls U→U.length≤S.length+ls.length:=fun hr=>by
      induction hr with
      | nil=>simp
      | cons hs _ ih=>have:=hs.len;rw[List.length_cons];omega
    have:=key h1
    simpa [S0] using this
  obtain⟨m2,b1,b2,b3⟩:=h2.dep (0+A.length) m1 [] (by omega) a3;rw[List.append_nil] at b1;refine⟨m2,?_,?_⟩
  · unfold lV
    rw[if_neg (by simp;omega)]
    show kY (qW xIc (A++B) 0 (((S0 x y).length:Int) - 1,0)) _=_
    rw[a1,b1]
    rfl
  · have:(((T++[l]).length:Nat):Int) - 1=(T.length:Int):=by simp
    omega
end
end Go.Proofs.YtfmnjkpddljdcaaGreatDoor
namespace Go.Proofs.YtfmnjkpddljdcaaGreatDoor
set_option linter.unusedVariables false
set_option linter.unusedSimpArgs false
section
variable {x:Template} {y:Instance}
theorem hit1 {t:Template} {y:Instance} {c:Con} {vs:List Int} {dom:List (List Int)} {p:Nat} {v:Int} (hC:CV t y.vars c) (hS:xId t vs c=true) (hl:dom.length=y.vars.toNat) (hd:Fit dom vs) (hp:c.scope[p]?=some v):rM t c dom p (vs.getD v.toNat 0)=true:=by
  obtain⟨hsc,r,r0,r1,r2,r3⟩:=hC
  unfold rM
  rw[dX r0 r1,Option.getD_some,List.any_eq_true];have h:=hS
  unfold xId at h
  rw[decide_eq_true_iff,List.getD_eq_getElem?_getD,r1] at h;refine⟨_,h,?_⟩
  unfold yM
  rw[xGz hp,xTn,xHd dom vs c.scope (fun w hw=>hd _ (by have:=hsc w hw;omega))]
  simp
def Nm (x:Template) (y:Instance) (seg:List Line) (vs:List Int):Prop:=∀ l∈seg,l.kind=2→∀ c,y.cons[l.con.toNat]?=some c→xId x vs c=true
theorem xMz (h:Ri x y) {D D':List (List Int)} {seg:List Line} (hr:Rn x y D seg D') {vs:List Int} (hlen:vs.length=y.vars.toNat):D.length=y.vars.toNat→Nm x y seg vs→Fit D vs→Fit D' vs∧D'.length=y.vars.toNat:=by
  have hv:=h.vars
  induction hr with
  | nil=>intro hl _ hf;exact⟨hf,hl⟩
  | @rem D D1 l s _ hs ih=>
    intro hl hn hf;obtain⟨h1,h2⟩:=ih hl (fun z hz=>hn z (List.mem_append_left _ hz)) hf;refine⟨?_,by unfold xFo;rw[List.length_set];exact h2⟩;obtain⟨hv2,hval,c0,c,p,hcc,hp,hb⟩:=hs;have hc:=hn (Line.mk 2 s.var s.value s.con) (by simp) rfl c hcc;have hit:=hit1 (h.cv c (List.mem_of_getElem? hcc)) hc h2 h1 hp
    unfold xFo
    have hvl:s.var.toNat<D1.length:=by omega
    have hm:=h1 s.var.toNat hvl;refine xAc h1 (List.mem_filter.2 ⟨hm,?_⟩);rw[bne_iff_ne];intro e;rw[e] at hit;rw[hit] at hb
    cases hb
  | @pair D D1 D2 l s v a i q _ hv2 hq ha h2q _ hi hd ih1 ih2=>
    intro hl hn hf;obtain⟨h1,h2⟩:=ih1 hl (fun z hz=>hn z (by simp [hz])) hf;refine⟨?_,by rw[List.length_set];exact h2⟩;have hvl:=(List.getElem?_eq_some_iff.1 hq).1;have hm:=h1 v.toNat hvl;rw[List.getD_eq_getElem?_getD (l:=D1),hq,Option.getD_some] at hm;refine xAc h1 (List.mem_filter.2 ⟨hm,?_⟩);rw[bne_iff_ne];intro e;obtain⟨h3,h4⟩:=ih2 (by rw[List.length_set];exact h2) (fun z hz=>hn z (by simp [hz])) (xAc h1 (by rw[e];simp));have hil:=(List.getElem?_eq_some_iff.1 hd).1;have:=h3 i.toNat hil;rw[List.getD_eq_getElem?_getD (l:=D2),hd] at this
    cases this
theorem xIq (h:Ri x y) {seg:List Line} {i:Int} {d2:List (List Int)} (hr:Rn x y (dV x y) seg d2) (hd:d2[i.toNat]?=some []) {vs:List Int} (hlen:vs.length=y.vars.toNat) (hrg:∀ v∈vs,0≤v∧v<x.size) (hn:Nm x y seg vs):False:=by
  have hl:(dV x y).length=y.vars.toNat:=(yZ h).len;have hs:=h.size
  have hf:Fit (dV x y) vs:=fun j hj=>by
    rw[xAf x y (by omega),tY]
    have hm:vs.getD j 0∈vs:=by rw[List.getD_eq_getElem?_getD,List.getElem?_eq_getElem (by omega)];exact List.getElem_mem _
    have:=hrg _ hm
    omega
  obtain⟨h1,_⟩:=xMz h hr hlen hl hn hf;have hil:=(List.getElem?_eq_some_iff.1 hd).1;have:=h1 i.toNat hil;rw[List.getD_eq_getElem?_getD (l:=d2),hd] at this
  cases this
theorem xJw (h:Ri x y) {seg:List Line} {i:Int} {d2:List (List Int)} (hr:Rn x y (dV x y) seg d2) (hd:d2[i.toNat]?=some []):∃ l∈seg,l.kind=2:=by
  rcases Classical.em (∃ l∈seg,l.kind=2) with h1 | h1
  · exact h1
  · exfalso
    have hs:=h.size;refine xIq h hr hd (vs:=List.replicate y.vars.toNat 0) (by simp) (fun v hv=>?_) (fun l hl hk=>absurd ⟨l,hl,hk⟩ h1);rw[List.eq_of_mem_replicate hv]
    omega
theorem xKj {l:Line} (h:eP l=true):eT l=some (kL (jV l))∧iL (kL (jV l))=some (l,0)∧fC l=some true:=by
  obtain⟨hk,h1,h2,h3⟩:=wX h;have g1:=mA h1;have g2:=mA h2;have g3:=mA h3
  have hlen:(jV l).length≤1048576:=by
    have n1:=sI (n:=l.var) (by omega);have n2:=sI (n:=l.value) (by omega);have n3:=sI (n:=l.con) (by omega)
    unfold jV
    split
    · simp only[List.length_append,List.length_cons,List.length_nil];omega
    · split
      · simp only[List.length_append,List.length_cons,List.length_nil];omega
      · simp only[List.length_append,List.length_cons,List.length_nil];omega
  exact⟨by rw[wH,h,if_pos rfl],by rw[xEv hlen,xPt h],by rw[yN,h]⟩
end
end Go.Proofs.YtfmnjkpddljdcaaGreatDoor
