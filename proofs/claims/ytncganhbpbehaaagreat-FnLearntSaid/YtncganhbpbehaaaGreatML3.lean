import Derived.Test.YtncganhbpbehaaaGreatM1
import Derived.Lib.SlicesCompact
import Derived.Test.YtncganhbpbehaaaGreatM16
namespace Go.Proofs.YtncganhbpbehaaaGreat
set_option linter.unusedVariables false
set_option linter.unusedSimpArgs false
open Go.Lib Go.Sort
theorem xCc (l:List Int):(compactUpTo (l.mergeSort fun x y=>decide (x≤y)).toArray l.length).length=l.length↔l.Nodup:=by
  obtain⟨s,hs⟩:∃ s,s=l.mergeSort fun x y=>decide (x≤y):=⟨_,rfl⟩
  have hlen:s.length=l.length:=by rw[hs];exact List.length_mergeSort _
  have hperm:s.Perm l:=by rw[hs];exact List.mergeSort_perm _ _
  have hsort:s.Pairwise (fun x y=>decide (x≤y)=true):=by
    rw[hs];exact List.pairwise_mergeSort (fun a b c h1 h2=>by simp at *;omega) (fun a b=>by simp;omega) l
  rw[← hs,← hperm.nodup_iff,← hlen]
  unfold compactUpTo
  rw[List.length_map]
  have hfl:((List.range s.length).filter (keeps s.toArray)).length=s.length↔∀ j,j<s.length→keeps s.toArray j=true:=by
    have h1:(List.range s.length).length=s.length:=List.length_range
    constructor
    · intro h j hj
      have h2:(List.range s.length).filter (keeps s.toArray)=List.range s.length:=List.filter_eq_self.2 (List.length_filter_eq_length_iff.1 (by rw[h,h1]));exact List.filter_eq_self.1 h2 j (List.mem_range.2 hj)
    · intro h
      rw[List.filter_eq_self.2 (fun j hj=>h j (List.mem_range.1 hj)),h1]
  rw[hfl,List.nodup_iff_pairwise_ne,List.pairwise_iff_getElem]
  have hle:∀ i j (hi:i<s.length) (hj:j<s.length),i<j→s[i]≤s[j]:=fun i j hi hj hij=>by
    have:=List.pairwise_iff_getElem.1 hsort i j hi hj hij
    simpa using this
  have hk:∀ j (hj:j<s.length),keeps s.toArray j=true↔(j=0∨∃ h:j - 1<s.length,s[j]≠s[j - 1]):=fun j hj=>by
    unfold keeps
    by_cases h0:j=0
    · simp [h0]
    · have hj1:j - 1<s.length:=by omega
      have e1:s.toArray[j]! = s[j]:=by rw[getElem!_pos s.toArray j (by simpa using hj)];simp
      have e2:s.toArray[j - 1]! = s[j - 1]:=by rw[getElem!_pos s.toArray (j - 1) (by simpa using hj1)];simp
      simp [h0,e1,e2,hj1]
  constructor
  · intro h i j hi hj hij
    have h1:=(hk j hj).1 (h j hj)
    rcases h1 with h1 | ⟨hj1,hne⟩
    · omega
    · have h2:s[j - 1]≤s[j]:=hle (j - 1) j hj1 hj (by omega)
      by_cases hij2:i=j - 1
      · subst hij2
        exact fun e=>hne e.symm
      · have h3:s[i]≤s[j - 1]:=hle i (j - 1) hi hj1 (by omega)
        intro e
        have:s[j]=s[j - 1]:=by omega
        exact hne this
  · intro h j hj
    refine(hk j hj).2 ?_
    by_cases h0:j=0
    · exact .inl h0
    · exact .inr ⟨by omega,fun e=>h (j - 1) j (by omega) hj (by omega) e.symm⟩
end Go.Proofs.YtncganhbpbehaaaGreat
namespace Go.Proofs.YtncganhbpbehaaaGreat
set_option linter.unusedVariables false
set_option linter.unusedSimpArgs false
set_option maxRecDepth 100000
theorem xFb {vs args:List Int} {n:Nat} (h:∀ i∈args,0≤i∧i<(n:Int)):atV (vs.take n) args=atV vs args:=by
  unfold atV
  apply List.map_congr_left
  intro i hi;have:=h i hi;rw[List.getD_eq_getElem?_getD,List.getD_eq_getElem?_getD,List.getElem?_take,if_pos (by omega)]
theorem uS {u:Template} {a:Atom} {vs ws:List Int} (h:atV vs a.args=atV ws a.args):nH u a vs=nH u a ws:=by unfold nH;rw[h]
theorem AV.rg {T:Nat} {u:Template} {n:Nat} {a:Atom} (hu:TV T u) (h:AV u n a):0≤mx a.args∧mx a.args<(n:Int)∧∀ i∈a.args,0≤i∧i≤mx a.args:=by
  have hl:=h.len hu
  have hn:(0:Int)<n:=by
    cases e:a.args with
    | nil=>rw[e] at hl;simp at hl
    | cons i r=>have:=h.1 i (by rw[e];simp);omega
  have:=xNq h.1 hn;exact⟨this.1,this.2,fun i hi=>⟨(h.1 i hi).1,(xHs (l:=a.args) (s:=0)).2 i hi⟩⟩
theorem xMb {T:Nat} {u:Template} {f:Formula} {Y:List Int} (hu:TV T u) (ha:∀ a∈f.atoms,AV u f.vars.toNat a) (hA:∀ a∈f.atoms,nH u a Y=true) {n:Nat} (h1:1≤n) (h2:n≤Y.length):bA u f (Y.take n)=true:=by
  unfold bA
  rw[List.all_eq_true];intro a hm;obtain⟨h3,h4,h5⟩:=(ha a hm).rg hu
  have hl:((Y.take n).length:Int)=n:=by rw[List.length_take];omega
  rw[hl]
  by_cases e:mx a.args=(n:Int) - 1
  · rw[decide_eq_true e,uS (xFb (fun i hi=>by have:=h5 i hi;omega)),hA a hm]
    rfl
  · rw[decide_eq_false e]
    rfl
def eF (u:Template) (f:Formula):Nat→List Int→List (List Int)
  | 0,vs=>[vs]
  | d+1,vs=>(List.range' 0 u.size.toNat).flatMap fun(a:Nat)=>if bA u f (vs++[(a:Int)]) then eF u f d (vs++[(a:Int)]) else []
theorem tQ {u:Template} {f:Formula}:∀ (d:Nat) (vs ws:List Int),ws∈eF u f d vs→ws.length=vs.length+d∧ws.take vs.length=vs∧(∀ n,vs.length<n→n≤vs.length+d→bA u f (ws.take n)=true)∧∀ x∈ws.drop vs.length,0≤x∧x<(u.size.toNat:Int)
  | 0,vs,ws,h=>by
    obtain rfl:=List.mem_singleton.1 h;exact⟨rfl,List.take_of_length_le (Nat.le_refl _),fun n h1 h2=>by omega,fun x hx=>by rw[List.drop_of_length_le (Nat.le_refl _)] at hx;cases hx⟩
  | d+1,vs,ws,h=>by
    rw[eF,List.mem_flatMap] at h;obtain⟨a,ha,h⟩:=h;have ha':=(List.mem_range'_1.1 ha).2
    split at h
    · rename_i hs
      obtain⟨h1,h2,h3,h4⟩:=tQ d _ ws h
      have hl:(vs++[(a:Int)]).length=vs.length+1:=by simp
      rw[hl] at h1 h2 h3 h4
      have e2:ws.take vs.length=vs:=by
        have:=congrArg (List.take vs.length) h2;rw[List.take_take,Nat.min_eq_left (by omega),List.take_append_of_le_length (Nat.le_refl _),List.take_of_length_le (Nat.le_refl _)] at this;exact this
      refine⟨by omega,e2,fun n h5 h6=>?_,fun x hx=>?_⟩
      · by_cases e:n=vs.length+1
        · rw[e,h2];exact hs
        · exact h3 n (by omega) (by omega)
      · rw[List.drop_eq_getElem_cons (by omega)] at hx
        rcases List.mem_cons.1 hx with rfl | hx
        · have e3:ws[vs.length]?=some (a:Int):=by
            have:=congrArg (fun l=>l[vs.length]?) h2;simp only[List.getElem?_take,Nat.lt_succ_self,if_true] at this;rw[this]
            simp
          rw[List.getElem?_eq_getElem (by omega)] at e3;rw[Option.some.inj e3]
          omega
        · exact h4 x hx
    · cases h
theorem xBt {u:Template} {f:Formula} {Y:List Int} (hY:∀ n,1≤n→n≤Y.length→bA u f (Y.take n)=true) (hr:∀ x∈Y,0≤x∧x<(u.size.toNat:Int)):∀ (d k:Nat),k+d=Y.length→Y∈eF u f d (Y.take k)
  | 0,k,h=>by rw[eF,List.take_of_length_le (by omega)];simp
  | d+1,k,hk=>by
    have hlt:k<Y.length:=by omega
    have e:Y.take k++[Y[k]]=Y.take (k+1):=by rw[List.take_add_one,List.getElem?_eq_getElem hlt];rfl
    have hx:=hr _ (List.getElem_mem hlt);rw[eF,List.mem_flatMap];refine⟨Y[k].toNat,List.mem_range'_1.2 ⟨by omega,by omega⟩,?_⟩;rw[Int.toNat_of_nonneg hx.1,e,if_pos (hY (k+1) (by omega) (by omega))];exact xBt hY hr d (k+1) (by omega)
theorem sI {u:Template} {f:Formula}:∀ (d:Nat) (vs:List Int),(eF u f d vs).Nodup
  | 0,vs=>by rw[eF];simp
  | d+1,vs=>by
    rw[eF]
    unfold List.Nodup
    rw[List.pairwise_flatMap];refine⟨fun a _=>?_,?_⟩
    · split
      · exact sI d _
      · exact List.Pairwise.nil
    · refine(List.pairwise_lt_range' (s:=0) (n:=u.size.toNat)).imp (fun {a b} hab x hx y hy=>?_)
      split at hx
      · split at hy
        · intro e
          subst e;have h1:=(tQ d _ _ hx).2.1;have h2:=(tQ d _ _ hy).2.1
          have hl:∀ a:Nat,(vs++[(a:Int)]).length=vs.length+1:=fun a=>by simp
          rw[hl] at h1 h2;rw[h1] at h2;have:=List.append_cancel_left h2
          simp at this
          omega
        · cases hy
      · cases hx
theorem xCg {u:Template} {f:Formula} (h4:u.size≤4):∀ (d:Nat) (vs:List Int),(eF u f d vs).length≤4 ^ d
  | 0,vs=>by simp [eF]
  | d+1,vs=>by
    rw[eF]
    have key:∀ (l:List Nat),(l.flatMap fun(a:Nat)=>if bA u f (vs++[(a:Int)]) then eF u f d (vs++[(a:Int)]) else []).length≤l.length*4 ^ d:=fun l=>by
      induction l with
      | nil=>simp
      | cons a l ih=>
        rw[List.flatMap_cons,List.length_append,List.length_cons,Nat.succ_mul]
        have h1:(if bA u f (vs++[(a:Int)]) then eF u f d (vs++[(a:Int)]) else []).length≤4 ^ d:=by
          split
          · exact xCg h4 d _
          · simp
        omega
    refine Nat.le_trans (key _) ?_;rw[List.length_range',Nat.pow_succ,Nat.mul_comm];exact Nat.mul_le_mul_left _ (by omega)
section
variable {x:Template} {y:Instance}
theorem Ri.cw (h:Ri x y):∀ c∈y.cons,CW x y.vars c:=fun c hc=>xPp h.tv (h.cv c hc)
theorem Ri.fx (h:Ri x y):FX x (fY 1 y):=by
  have hv:=h.vars;exact xPr h.cw (by omega) (by omega) h.cons
def tL (x:Template) (y:Instance):List (List Int):=eF x (fY 1 y) y.vars.toNat []
theorem wO (h:Ri x y) {o:List Int} (ho:o∈tL x y):Sol x y o:=by
  obtain⟨h1,h2,h3,h4⟩:=tQ _ _ _ ho;have hs:=h.size;rw[List.length_nil,Nat.zero_add] at h1 h3;rw[List.length_nil,List.drop_zero] at h4;refine⟨by omega,fun a ha=>by have:=h4 a ha;omega,fun c hc=>?_⟩;have hw:=h.cw c hc;have hA:AV x y.vars.toNat ⟨c.rel,c.scope⟩:=⟨fun i hi=>by have:=hw.1.1 i hi;show 0≤i∧i<(y.vars.toNat:Int);omega,.inr hw.1.2⟩;obtain⟨k3,k4,k5⟩:=hA.rg h.tv;rw[← xCs hw];have hs:=h3 ((mx c.scope).toNat+1) (by simp) (by have:mx c.scope<(y.vars.toNat:Int):=k4;omega)
  unfold bA at hs
  have hs2:=List.all_eq_true.1 hs ⟨c.rel,c.scope⟩ (List.mem_map.2 ⟨c,hc,rfl⟩);have k3':0≤mx c.scope:=k3;have k4':mx c.scope<(y.vars.toNat:Int):=k4
  have hl2:((o.take ((mx c.scope).toNat+1)).length:Int) - 1=mx c.scope:=by rw[List.length_take];omega
  rw[hl2,decide_eq_true (show mx (Atom.mk c.rel c.scope).args=mx c.scope from rfl),Bool.not_true,Bool.false_or,uS (xFb (fun i hi=>by have:=k5 i hi;have k6:mx (Atom.mk c.rel c.scope).args=mx c.scope:=rfl;omega))] at hs2;exact hs2
theorem wQ (h:Ri x y) {vs:List Int} (hS:Sol x y vs):vs∈tL x y:=by
  have hl:=hS.1
  have:=xBt (u:=x) (f:=fY 1 y) (Y:=vs) (fun n h1 h2=>xMb h.tv (fun a ha=>by
    obtain⟨c,hc,rfl⟩:=List.mem_map.1 ha;have hw:=h.cw c hc
    exact⟨fun i hi=>by have:=hw.1.1 i hi;show 0≤i∧i<(y.vars.toNat:Int);omega,.inr hw.1.2⟩) (fun a ha=>by
    obtain⟨c,hc,rfl⟩:=List.mem_map.1 ha;rw[xCs (h.cw c hc)]
    exact hS.2.2 c hc) h1 h2) (fun z hz=>by have:=hS.2.1 z hz;omega) vs.length 0 (by omega)
  rw[hl] at this;exact this
end
theorem xDk {T:Nat} {u:Template} {f:Formula} (hu:TV T u) (hf:FX u f):∀ (d N:Nat) (vs:List Int) (c:Int),(vs.length:Int)+d=f.vars→d+1003≤N→0≤c→c+(eF u f d vs).length≤4611686018427387904 →
    aI (fun _ n=>xZ (ck (n+1)) fun z=>some (true,z)) N (wL u f) vs c=some (true,c+(eF u f d vs).length)
  | 0,N,vs,c,hd,hN,hc0,hc=>by
    obtain⟨M,rfl⟩:∃ M,N=M+1:=⟨N - 1,by omega⟩;have h2:=hf.v0;rw[aI,if_pos (by show((vs.length:Int)==f.vars)=true;simp;omega)]
    unfold vA
    rw[eF] at hc ⊢;rw[List.length_singleton] at hc ⊢;rw[zX (by simp only[List.length_nil];omega),bnd_s,bnd_s,kE (by omega) (by omega),bnd_s]
    rfl
  | d+1,N,vs,c,hd,hN,hc0,hc=>by
    obtain⟨M,rfl⟩:∃ M,N=M+1:=⟨N - 1,by omega⟩;have h2:=hf.v0;have ih:=xDk hu hf d M;rw[aI,if_neg (by show ¬ ((vs.length:Int)==f.vars)=true;simp;omega)]
    have key:∀ (m k:Nat) (s:Int),0≤s→s+((List.range' k m).flatMap fun(a:Nat)=>if bA u f (vs++[(a:Int)]) then eF u f d (vs++[(a:Int)]) else []).length≤4611686018427387904 →
        aS (σ:=Int) (ρ:=Bool×Int) (fun(k60:Nat) (s:Int)=>
      xZ (zP vs) fun z66=>
      xZ (ap z66 ([(k60:Int)])) fun z73=>
      xZ (aU M (wL u f) z73) fun z86=>
      if z86 then xZ (aI (fun _ n=>xZ (ck (n+1)) fun z=>some (true,z)) M (wL u f) z73 s) fun z89=>
        if z89.1 then some (.go z89.2) else some (.ret (false,z89.2))
      else some (.go s)) m k s=some (.nx (s+((List.range' k m).flatMap fun(a:Nat)=>if bA u f (vs++[(a:Int)]) then eF u f d (vs++[(a:Int)]) else []).length)):=by
      intro m
      induction m with
      | zero=>intro k s _ _;simp [aS]
      | succ m ihm=>
        intro k s hs0 hs;rw[List.range'_succ,List.flatMap_cons,List.length_append] at hs ⊢
        have hl:(vs++[(k:Int)]).length=vs.length+1:=by simp
        by_cases hsu:bA u f (vs++[(k:Int)])=true
        · rw[if_pos hsu] at hs ⊢
          rw[fQ (s':=s+(eF u f d (vs++[(k:Int)])).length) (by
            unfold zP
            rw[bnd_s,zX (by simp only[List.length_cons,List.length_nil];omega),bnd_s,xCd hu hf (by omega) (by rw[hl];omega),bnd_s,if_pos hsu,ih _ s (by rw[hl];push_cast;omega) (by omega) hs0 (by omega),bnd_s]
            rfl),ihm (k+1) _ (by omega) (by omega)]
          congr 2
          push_cast
          omega
        · rw[if_neg hsu] at hs ⊢
          have hs':bA u f (vs++[(k:Int)])=false:=by simpa using hsu
          rw[fQ (s':=s) (by
            unfold zP
            rw[bnd_s,zX (by simp only[List.length_cons,List.length_nil];omega),bnd_s,xCd hu hf (by omega) (by rw[hl];omega),bnd_s,hs']
            rfl),ihm (k+1) _ hs0 (by simpa using hs)]
          simp
    rw[eF] at hc;rw[eF]
    show zR (aS _ u.size.toNat 0 c) _=_
    rw[key _ _ _ hc0 hc,thn_nx]
theorem xFu {x:Template} {y:Instance} (h:Ri x y) {N:Nat} (hN:5100≤N):cR N x y=some (((tL x y).length:Int),0):=by
  have hv:=h.vars;have hs:=h.size;have h5:=h.five
  unfold cR
  rw[show(Template.mk x.size x.rels)=x from rfl,show(Instance.mk y.vars y.cons)=y from rfl,h.inst.2,bnd_s,if_neg (by simp),tP h.tv h.fx,bnd_s];have hle:=xCg (u:=x) (f:=fY 1 y) hs.2 y.vars.toNat [];have h4:4 ^ y.vars.toNat≤4 ^ 5:=Nat.pow_le_pow_right (by omega) (by omega);rw[xDk h.tv h.fx y.vars.toNat N [] 0 (by show(([]:List Int).length:Int)+_=y.vars;simp;omega) (by omega) (by omega) (by omega),bnd_s];simp only[Int.zero_add]
  rfl
theorem xBw {T:Nat} {u:Template} {y:Instance} (hu:TV T u) (h:∀ c∈y.cons,CW u y.vars c) (hv:0≤y.vars∧y.vars≤10):∀ (d N:Nat) (vs:List Int) (c:Int),(vs.length:Int)+d=y.vars→d+1≤N→0≤c→c+(eF u (fY 1 y) d vs).length≤4611686018427387904→zE N u y 0 [] c vs=some ([],c+(eF u (fY 1 y) d vs).length)
  | 0,N,vs,c,hd,hN,hc0,hc=>by
    obtain⟨M,rfl⟩:∃ M,N=M+1:=⟨N - 1,by omega⟩;rw[eF,List.length_singleton] at hc ⊢;rw[zE,if_pos (by simp;omega),kE (by omega) (by omega),bnd_s,if_neg (by simp),thn_nx]
    rfl
  | d+1,N,vs,c,hd,hN,hc0,hc=>by
    obtain⟨M,rfl⟩:∃ M,N=M+1:=⟨N - 1,by omega⟩;have ih:=xBw hu h hv d M;rw[zE,if_neg (by simp;omega)]
    have hl:∀ a:Nat,(vs++[(a:Int)]).length=vs.length+1:=fun a=>by simp
    have key:∀ (m k:Nat) (s:Int) (b:Nat→(List (List Int))×Int→Option (Ctl ((List (List Int))×Int) ((List (List Int))×Int))),0≤s→s+((List.range' k m).flatMap fun(a:Nat)=>if bA u (fY 1 y) (vs++[(a:Int)]) then eF u (fY 1 y) d (vs++[(a:Int)]) else []).length≤4611686018427387904 →
        (∀ (a:Nat) (s:Int),0≤s→s+(if bA u (fY 1 y) (vs++[(a:Int)]) then eF u (fY 1 y) d (vs++[(a:Int)]) else []).length≤4611686018427387904→b a ([],s)=some (.go ([],s+(if bA u (fY 1 y) (vs++[(a:Int)]) then eF u (fY 1 y) d (vs++[(a:Int)]) else []).length))) →
        aS b m k ([],s)=some (.nx ([],s+((List.range' k m).flatMap fun(a:Nat)=>if bA u (fY 1 y) (vs++[(a:Int)]) then eF u (fY 1 y) d (vs++[(a:Int)]) else []).length)):=by
      intro m
      induction m with
      | zero=>intro k s b _ _ _;simp [aS]
      | succ m ihm=>
        intro k s b hs0 hs hb;rw[List.range'_succ,List.flatMap_cons,List.length_append] at hs ⊢;rw[fQ (hb k s hs0 (by omega)),ihm (k+1) _ b (by omega) (by omega) hb]
        congr 3
        push_cast
        omega
    rw[eF] at hc ⊢
    have hk:=key u.size.toNat 0 c (b:=fun(k217:Nat) (s:(List (List Int))×Int)=>
      match s with
      | (s207,s210)=>
      zR (σ:=Bool) (
       if (decide ((0:Int)<0)) then  some (.nx ((s207.length:Int)==0)) else  some (.nx false)) fun s231=>
      if s231 then
       some (.ret (s207,s210))
      else
       xZ (cV vs) fun z235=>
       xZ (ap z235 ([(k217:Int)])) fun z242=>
       xZ (cH (l05Find.mk u y 0 s207 s210) z242) fun z246=>
       if z246 then
        xZ (zE M u y 0 s207 s210 z242) fun z258=>
        some (.go (z258.1,z258.2))
       else
        some (.go (s207,s210))) hc0 hc (fun a s hs0 hs=>by
      simp only;rw[if_neg (by decide),thn_nx,if_neg (by simp),own_eq _ (by omega),bnd_s,zX (by simp only[List.length_cons,List.length_nil];omega),bnd_s,xEe 1 hu h (by rw[hl];omega),bnd_s]
      by_cases hsu:bA u (fY 1 y) (vs++[(a:Int)])=true
      · rw[if_pos hsu] at hs ⊢
        rw[if_pos hsu,ih _ s (by rw[hl];push_cast;omega) (by omega) hs0 hs,bnd_s]
      · rw[if_neg hsu] at hs ⊢
        rw[if_neg hsu]
        simp)
    rw[hk,thn_nx]
theorem xGe {x:Template} {y:Instance} (h:Ri x y) {N:Nat} (hN:5100≤N):cS N x y=some (((tL x y).length:Int),0):=by
  have hv:=h.vars;have hs:=h.size;have h5:=h.five
  unfold cS
  have hle:=xCg (u:=x) (f:=fY 1 y) hs.2 y.vars.toNat [];have h4:4 ^ y.vars.toNat≤4 ^ 5:=Nat.pow_le_pow_right (by omega) (by omega);rw[show(Template.mk x.size x.rels)=x from rfl,show(Instance.mk y.vars y.cons)=y from rfl,h.inst.1,bnd_s,if_neg (by simp),xBw h.tv h.cw (by omega) y.vars.toNat N [] 0 (by simp only[List.length_nil];omega) (by omega) (by omega) (by omega),bnd_s];simp only[Int.zero_add]
  rfl
theorem xAo (L M:List (List Int)) (K:Nat):(L.take K++M).take K=(L++M).take K:=by
  rw[List.take_append,List.take_append,List.take_take,Nat.min_self,List.length_take]
  by_cases h:L.length≤K
  · rw[Nat.min_eq_right h]
  · rw[Nat.min_eq_left (by omega),Nat.sub_self,show K - L.length=0 by omega]
theorem xEn {T:Nat} {u:Template} {y:Instance} (hu:TV T u) (h:∀ c∈y.cons,CW u y.vars c) (hv:0≤y.vars∧y.vars≤10) (K:Nat) (hK:1≤K∧K≤1000):∀ (d N:Nat) (vs:List Int) (L:List (List Int)),(vs.length:Int)+d=y.vars→d+1≤N→L.length<K→zE N u y (K:Int) L (L.length:Int) vs=some ((L++eF u (fY 1 y) d vs).take K,(((L++eF u (fY 1 y) d vs).take K).length:Int))
  | 0,N,vs,L,hd,hN,hL=>by
    obtain⟨M,rfl⟩:∃ M,N=M+1:=⟨N - 1,by omega⟩;rw[zE,if_pos (by simp;omega),kE (by omega) (by omega),bnd_s,if_pos (by simpa using hL),own_eq _ (by omega),bnd_s,zX (by simp only[List.length_cons,List.length_nil];omega),bnd_s,thn_nx,eF,List.take_of_length_le (by simp;omega)]
    simp
  | d+1,N,vs,L,hd,hN,hL=>by
    obtain⟨M,rfl⟩:∃ M,N=M+1:=⟨N - 1,by omega⟩;have ih:=xEn hu h hv K hK d M;rw[zE,if_neg (by simp;omega)]
    have hl:∀ a:Nat,(vs++[(a:Int)]).length=vs.length+1:=fun a=>by simp
    have key:∀ (m k:Nat) (L:List (List Int)) (b:Nat→(List (List Int))×Int→Option (Ctl ((List (List Int))×Int) ((List (List Int))×Int))),L.length≤K →
        (∀ (a:Nat) (L:List (List Int)),L.length=K→b a (L,(L.length:Int))=some (.ret (L,(L.length:Int)))) →
        (∀ (a:Nat) (L:List (List Int)),L.length<K→b a (L,(L.length:Int))=some (.go ((L++if bA u (fY 1 y) (vs++[(a:Int)]) then eF u (fY 1 y) d (vs++[(a:Int)]) else []).take K,(((L++if bA u (fY 1 y) (vs++[(a:Int)]) then eF u (fY 1 y) d (vs++[(a:Int)]) else []).take K).length:Int)))) →
        zR (aS b m k (L,(L.length:Int))) (fun s=>some s)=some ((L++(List.range' k m).flatMap fun(a:Nat)=>if bA u (fY 1 y) (vs++[(a:Int)]) then eF u (fY 1 y) d (vs++[(a:Int)]) else []).take K,(((L++(List.range' k m).flatMap fun(a:Nat)=>if bA u (fY 1 y) (vs++[(a:Int)]) then eF u (fY 1 y) d (vs++[(a:Int)]) else []).take K).length:Int)):=by
      intro m
      induction m with
      | zero=>intro k L b hLK _ _;simp only[List.range'_zero,List.flatMap_nil,List.append_nil];rw[List.take_of_length_le hLK];rfl
      | succ m ihm=>
        intro k L b hLK hb1 hb2;rw[List.range'_succ,List.flatMap_cons]
        by_cases he:L.length=K
        · rw[xCy (hb1 k L he)]
          rw[List.take_append,List.take_of_length_le (by omega),show K - L.length=0 by omega,List.take_zero,List.append_nil]
          rfl
        · rw[fQ (hb2 k L (by omega)),ihm (k+1) _ b (by rw[List.length_take];omega) hb1 hb2,xAo,List.append_assoc]
    rw[eF];refine key u.size.toNat 0 L _ (by omega) (fun a L hL=>?_) (fun a L hL=>?_)
    · simp only
      rw[if_pos (by simp;omega),thn_nx,hL]
      simp
    · simp only
      have hne:((L.length:Int)==(K:Int))=false:=by simp;omega
      rw[if_pos (by simp;omega),thn_nx,hne,if_neg (by simp),own_eq _ (by omega),bnd_s,zX (by simp only[List.length_cons,List.length_nil];omega),bnd_s,xEe 1 hu h (by rw[hl];omega),bnd_s]
      by_cases hsu:bA u (fY 1 y) (vs++[(a:Int)])=true
      · rw[if_pos hsu,if_pos hsu,ih _ L (by rw[hl];push_cast;omega) (by omega) hL,bnd_s]
      · rw[if_neg hsu,if_neg hsu,List.append_nil,List.take_of_length_le (by omega)]
theorem xNa {x:Template} {y:Instance} (h:Ri x y) {N:Nat} (hN:5100≤N):∃ L c,dK N x y=some (L,c)∧(c=3∨(c=0∧L.length≤200∧∀ vs,vs∈L↔Sol x y vs)):=by
  have hv:=h.vars
  unfold dK fT
  have hf:=xEn h.tv h.cw (by omega) 201 (by omega) y.vars.toNat N [] [] (by simp only[List.length_nil];omega) (by omega) (by simp);rw[show(Template.mk x.size x.rels)=x from rfl,show(Instance.mk y.vars y.cons)=y from rfl,h.inst.1,bnd_s,if_neg (by simp)];have hf2:zE N x y 201 [] 0 []=some ((tL x y).take 201,(((tL x y).take 201).length:Int)):=hf;rw[hf2,bnd_s,bnd_s]
  by_cases hl:200<(((tL x y).take 201).length:Int)
  · rw[if_pos (by simpa using hl)]
    exact⟨_,_,rfl,.inl rfl⟩
  · rw[if_neg (by simpa using hl)]
    have hl2:(tL x y).length≤200:=by rw[List.length_take] at hl;omega
    refine⟨_,_,rfl,.inr ⟨rfl,(by show((tL x y).take 201).length≤200;omega),fun vs=>?_⟩⟩
    show vs∈(tL x y).take 201↔_
    rw[List.take_of_length_le (by omega)];exact⟨wO h,wQ h⟩
theorem xBv {u:Template} {f:Formula}:∀ (d:Nat) (vs:List Int),(iZ u f d vs).isSome = !(eF u f d vs).isEmpty
  | 0,vs=>rfl
  | d+1,vs=>by
    rw[iZ,eF]
    induction (List.range' 0 u.size.toNat) with
    | nil=>rfl
    | cons a l ih=>
      rw[List.findSome?_cons,List.flatMap_cons]
      have h1:(if bA u f (vs++[(a:Int)]) then iZ u f d (vs++[(a:Int)]) else none).isSome = !(if bA u f (vs++[(a:Int)]) then eF u f d (vs++[(a:Int)]) else []).isEmpty:=by
        split
        · exact xBv d _
        · rfl
      revert h1
      generalize (if bA u f (vs++[(a:Int)]) then iZ u f d (vs++[(a:Int)]) else none)=q;generalize (if bA u f (vs++[(a:Int)]) then eF u f d (vs++[(a:Int)]) else [])=r;intro h1
      cases q with
      | none=>
        cases r with
        | nil=>exact ih
        | cons _ _=>simp at h1
      | some _=>
        cases r with
        | nil=>simp at h1
        | cons _ _=>rfl
theorem xBi {x:Template} {y:Instance} (h:Ri x y) {N:Nat} (hN:5100≤N):∃ o c,bR N x y=some (o,c)∧((c=0∧∃ vs,Sol x y vs)∨(c=6∧∀ vs,¬ Sol x y vs)):=by
  have hv:=h.vars
  unfold bR
  rw[show(Template.mk x.size x.rels)=x from rfl,show(Instance.mk y.vars y.cons)=y from rfl,h.inst.2,bnd_s,if_neg (by simp),tP h.tv h.fx,bnd_s,xIw h.tv h.fx (by omega),bnd_s];have he:=xBv (u:=x) (f:=fY 1 y) y.vars.toNat [];have he2:(iZ x (fY 1 y) (fY 1 y).vars.toNat []).isSome = !(tL x y).isEmpty:=he;simp only;rw[he2]
  cases hs:tL x y with
  | nil=>exact⟨_,_,rfl,.inr ⟨rfl,fun vs hS=>by have:=wQ h hS;rw[hs] at this;cases this⟩⟩
  | cons o L=>exact⟨_,_,rfl,.inl ⟨rfl,o,wO h (by rw[hs];simp)⟩⟩
theorem uD {α:Type} [DecidableEq α]:∀ (d e:List α),d.Nodup→(∀ a∈d,a∈e)→d.length≤e.length
  | [],_,_,_=>by simp
  | a::d,e,h,hs=>by
    obtain⟨h1,h2⟩:=List.nodup_cons.1 h;have h3:a∈e:=hs a (by simp);have h4:=uD d (e.erase a) h2 (fun b hb=>(List.mem_erase_of_ne (a:=b) (b:=a) (fun e'=>by subst e';exact h1 hb)).2 (hs b (by simp [hb])));have h5:=List.length_erase_of_mem h3;have h6:=List.length_pos_of_mem h3;rw[List.length_cons]
    omega
theorem xFx {x u:Template} {y z:Instance} (h:Ri x y) (h':Ri u z) (e:∀ vs,Sol x y vs↔Sol u z vs):(tL x y).length=(tL u z).length:=
  Nat.le_antisymm (uD _ _ (sI _ _) (fun a ha=>wQ h' ((e a).1 (wO h ha)))) (uD _ _ (sI _ _) (fun a ha=>wQ h ((e a).2 (wO h' ha))))
end Go.Proofs.YtncganhbpbehaaaGreat
namespace Go.Proofs.YtncganhbpbehaaaGreat
set_option linter.unusedVariables false
set_option linter.unusedSimpArgs false
set_option maxRecDepth 100000
open Go.Lib Go.Sort
def xHx (l:List Literal):Bool:=okS (l.length:Int) && decide ((l.map Literal.var).Nodup)
theorem xBc {ρ:Type}:∀ (l:List Literal) (k:Nat) (s:List Int),s.length+l.length≤1048576→qT (σ:=List Int) (ρ:=ρ) (fun(k:Nat) (x:Literal) (s:List Int)=>xZ (ap s [x.var]) fun z=>some (.go z)) l k s=some (.nx (s++l.map Literal.var))
  | [],_,s,_=>by simp
  | a::l,k,s,h=>by
    rw[List.length_cons] at h;rw[kB (s':=s++[a.var]) (by rw[zX (by simp only[List.length_cons,List.length_nil];omega),bnd_s]),xBc l (k+1) _ (by simp only[List.length_append,List.length_singleton];omega)]
    simp
theorem xGr (l:List Int) (h0:0<l.length) (h1:l.length≤1048576):∃ r,jR l=some r∧((r.length:Int)==(l.length:Int))=decide (l.Nodup):=by
  have hs:(l.mergeSort fun x y=>decide (x≤y)).length=l.length:=List.length_mergeSort _;refine⟨compactUpTo (l.mergeSort fun x y=>decide (x≤y)).toArray l.length,?_,?_⟩
  · unfold jR
    rw[rF l h1,bnd_s]
    unfold aF
    rw[if_pos ⟨h0,h1⟩,bnd_s]
    unfold kW
    rw[if_pos ⟨by rw[hs];exact h0,by rw[hs];exact h1⟩,hs]
    rfl
  · rw[Bool.eq_iff_iff,decide_eq_true_eq,← xCc l]
    simp only[beq_iff_eq]
    omega
theorem xIp (l:List Literal) (h:l.length≤1048576):jJ l=some (xHx l):=by
  unfold jJ xHx
  rw[xBc l 0 [] (by simp;omega),thn_nx,List.nil_append,yJ,bnd_s,List.length_map]
  cases ha:okS (l.length:Int) with
  | false=>rfl
  | true=>
    have:=tT ha;obtain⟨r,h1,h2⟩:=xGr (l.map Literal.var) (by rw[List.length_map];omega) (by rw[List.length_map];exact h);rw[List.length_map] at h2;rw[if_pos rfl,h1,bnd_s,thn_nx,h2,Bool.true_and]
theorem xBp {ρ:Type} (f:Rel→Option (List (List Int))):∀ (l:List Rel) (k:Nat) (s:List Rel),(∀ r∈l,f r=some r.tuples)→s.length+l.length≤1048576→qT (σ:=List Rel) (ρ:=ρ) (fun(k:Nat) (x:Rel) (s:List Rel)=>xZ (f x) fun z=>xZ (ap s [Rel.mk x.arity z]) fun z2=>some (.go z2)) l k s=some (.nx (s++l))
  | [],_,s,_,_=>by simp
  | r::l,k,s,hf,h=>by
    rw[List.length_cons] at h;rw[kB (s':=s++[r]) (by rw[hf r (by simp),bnd_s,zX (by simp only[List.length_cons,List.length_nil];omega),bnd_s]),xBp f l (k+1) _ (fun u hu=>hf u (by simp [hu])) (by simp only[List.length_append,List.length_singleton];omega)]
    simp
theorem yO (y:Instance) (hl:y.cons.length≤24) (h:∀ c∈y.cons,c.scope.length≤4):bQ y=some y:=by
  unfold bQ
  rw[own_loop y.cons 0 [] (fun c hc=>by have:=h c hc;omega) (by simp only[List.length_nil];omega),thn_nx]
  rfl
theorem xBr {ρ:Type}:∀ (l:List Literal) (k:Nat) (a b:List Int),a.length+l.length≤1048576→b.length+l.length≤1048576→qT (σ:=List Int×List Int) (ρ:=ρ) (fun(k:Nat) (x:Literal) (s:List Int×List Int)=>match s with | (s1,s2)=>xZ (ap s1 [x.var]) fun z=>xZ (ap s2 [x.value]) fun z2=>some (.go (z,z2))) l k (a,b)=some (.nx (a++l.map Literal.var,b++l.map Literal.value))
  | [],_,a,b,_,_=>by simp
  | x::l,k,a,b,h1,h2=>by
    rw[List.length_cons] at h1 h2;rw[kB (s':=(a++[x.var],b++[x.value])) (by simp only[zX (l:=a) (m:=[x.var]) (by simp only[List.length_cons,List.length_nil];omega),zX (l:=b) (m:=[x.value]) (by simp only[List.length_cons,List.length_nil];omega),bnd_s]),xBr l (k+1) _ _ (by simp only[List.length_append,List.length_singleton];omega) (by simp only[List.length_append,List.length_singleton];omega)]
    simp
theorem xLs (x:Template) (hl:x.rels.length≤6) (h:∀ r∈x.rels,r.tuples.length≤1048576∧∀ t∈r.tuples,t.length≤4):eP x=some x:=by
  unfold eP
  rw[xBp (fun r=>eC r.tuples) x.rels 0 [] (fun r hr=>uP _ (fun t ht=>by have:=(h r hr).2 t ht;omega) (h r hr).1) (by simp only[List.length_nil];omega),thn_nx]
  rfl
theorem xKf:∀ (d v:List Int),aE d v=some (d==v):=fun d v=>by
  unfold aE
  by_cases hl:d.length=v.length
  · rw[if_neg (by simp;omega)]
    have key:∀ (d v p:List Int),d.length=v.length→zR (qT (σ:=Unit) (ρ:=Bool) (fun(k:Nat) (x:Int) (s:Unit)=>match s with | _=>xZ (ix (p++v) (k:Int)) fun z=>if (x != z) then some (.ret false) else some (.go ())) d p.length ()) (fun _=>some true)=some (d==v):=by
      intro d
      induction d with
      | nil=>
        intro v p h;have:v=[]:=List.length_eq_zero_iff.1 h.symm;subst this
        rfl
      | cons a d ih=>
        intro v p h
        cases v with
        | nil=>simp at h
        | cons b v=>
          have hx:ix (p++b::v) (p.length:Int)=some b:=qX (by simp)
          by_cases e:a=b
          · subst e
            rw[kB (s':=()) (by simp only[hx,bnd_s];rw[if_neg (by simp)])];have:=ih v (p++[a]) (by simpa using h);rw[List.length_append,List.length_singleton,List.append_assoc] at this;simp only[List.singleton_append] at this;rw[this]
            simp
          · rw[jH (r:=false) (by simp only[hx,bnd_s];rw[if_pos (by simpa using e)])]
            show some false=_
            congr 1
            symm
            rw[beq_eq_false_iff_ne];intro h2;exact e (List.cons.inj h2).1
    exact key d v [] hl
  · rw[if_pos (by simp;omega)]
    congr 1
    symm
    rw[beq_eq_false_iff_ne];intro e;exact hl (by rw[e])
def xGg (T n:Nat) (v:List Int):Rel:=⟨n,(cY T n).filter fun d=>!(d==v)⟩
theorem xLz:∀ T∈[1,2,3,4],∀ n∈[1,2,3],∀ v∈cY T n,lG (T:Nat) (xGg T n v)=true:=by decide +kernel
theorem xNk (vs:List Int) (q:List Literal):atV vs (q.map Literal.var)=q.map Literal.value↔tC q vs:=by
  unfold atV tC
  rw[List.map_map]
  constructor
  · intro h l hl
    obtain⟨k,hk,rfl⟩:=List.mem_iff_getElem.1 hl;have:=congrArg (fun m=>m[k]?) h;simp only[List.getElem?_map,List.getElem?_eq_getElem hk,Option.map_some] at this;exact Option.some.inj this
  · intro h
    exact List.map_congr_left (fun l hl=>h l hl)
theorem xMm {x:Template} {y:Instance} (h:Ri x y) {q:List Literal} (hcl:CL x y q) (hn:(q.map Literal.var).Nodup) (hq:1≤q.length∧q.length≤3) (hbad:Bad x y q) (hr:x.rels.length<6) (hc:y.cons.length<24) {N:Nat} (hN:5100≤N) :
    ∃ u z,fJ N x y [q]=some (u,z,0)∧u.rels.length=x.rels.length+1∧Ri u z∧∀ vs,Sol x y vs↔Sol u z vs:=by
  have hs:=h.size;have hv:=h.vars;obtain⟨T,hT⟩:∃ T:Nat,x.size=(T:Int):=⟨x.size.toNat,by omega⟩;obtain⟨n,hqn⟩:∃ n,n=q.length:=⟨_,rfl⟩
  have hvm:q.map Literal.value∈cY T n:=iN.2 ⟨by rw[List.length_map,hqn],fun a ha=>by
    obtain⟨l,hl,rfl⟩:=List.mem_map.1 ha;have:=(hcl l hl).2
    omega⟩
  have hrel:=xLz T (by simp;omega) n (by simp;omega) _ hvm;refine⟨⟨x.size,x.rels++[xGg T n (q.map Literal.value)]⟩,⟨y.vars,y.cons++[⟨(x.rels.length:Int),q.map Literal.var⟩]⟩,?_,by simp,?_,fun vs=>?_⟩
  · unfold fJ
    have hone:xHx q=true:=by unfold xHx okS;simp;exact⟨by omega,hn⟩
    have hci:zG [q] (fun a0=>aX a0 x y)=some false:=by
      obtain⟨i,h1,h2⟩:=jL [q] (fun _=>false) (fun a0=>aX a0 x y) (fun l hl=>by
        rw[List.mem_singleton] at hl;subst hl
        unfold aX
        rw[show(aR x y l)=some (l.all (tA x y)) from (h.lits l).1,(xLm l).2 hcl,bnd_s,if_neg (by simp),xIp l (by omega),bnd_s,thn_nx,hone]
        rfl)
      have h3:kC [q] (fun a0=>aX a0 x y)=some i:=h1
      unfold zG
      rw[h3,bnd_s,h2]
      rfl
    have hxt:∀ r∈x.rels,r.tuples.length≤1048576∧∀ t∈r.tuples,t.length≤4:=fun r hr=>⟨h.small r hr,fun t ht=>by
      obtain⟨m,e,n1,n4,_,hm⟩:=h.tv.r r hr;have:=(iN.1 (hm t ht)).1
      omega⟩
    have hrelOf:jE N x.size (q.length:Int) (fun a0=>dT a0 (q.map Literal.value))=some (xGg T n (q.map Literal.value)):=by
      rw[hT,← hqn];exact xKv (by omega) (by omega) (by omega) _ (fun d _=>by unfold dT;rw[xKf,bnd_s])
    rw[show(Template.mk x.size x.rels)=x from rfl,show(Instance.mk y.vars y.cons)=y from rfl,h.inst.2,bnd_s,if_neg (by simp),hci,bnd_s,if_neg (by simp),List.length_singleton,kE (by omega) (by omega),bnd_s,if_neg (by simp;omega),kE (by omega) (by omega),bnd_s,thn_nx,if_neg (by simp;omega),xLs x (by omega) hxt,bnd_s,yO y (by omega) (fun c hc=>(h.cok c hc).four),bnd_s]
    rw[kB (s':=(x.rels++[xGg T n (q.map Literal.value)],y.cons++[⟨(x.rels.length:Int),q.map Literal.var⟩])) (by
      simp only;rw[xBr q 0 [] [] (by simp;omega) (by simp;omega),thn_nx];simp only[List.nil_append]
      rw[zX (by simp;omega),bnd_s,hrelOf,bnd_s,zX (by simp;omega),bnd_s]),forL_nil',thn_nx]
  · refine⟨fun r hr=>?_,?_,h.five⟩
    · rcases List.mem_append.1 hr with hr | hr
      · exact h.small r hr
      · rw[List.mem_singleton.1 hr]
        have h1:(cY T n).length≤256:=tK (by omega) (by omega);have h2:=List.length_filter_le (fun d=>!(d==q.map Literal.value)) (cY T n)
        show((cY T n).filter _).length≤1048576
        omega
    · have hval:=h.val
      unfold pQ at hval ⊢
      simp only[Bool.and_eq_true,decide_eq_true_eq,List.all_eq_true] at hval ⊢;obtain⟨a1,a2,a3,a4⟩:=hval;refine⟨?_,a2,by simp;omega,fun c hcm=>?_⟩
      · unfold pD at a1 ⊢
        simp only[Bool.and_eq_true,decide_eq_true_eq,List.all_eq_true] at a1 ⊢;refine⟨a1.1,by simp;omega,fun r hr=>?_⟩
        rcases List.mem_append.1 hr with hr | hr
        · exact a1.2.2 r hr
        · rw[List.mem_singleton.1 hr,hT];exact hrel
      · rcases List.mem_append.1 hcm with hcm | hcm
        · have:=a4 c hcm
          unfold xFq at this ⊢
          simp only[Bool.and_eq_true,decide_eq_true_eq,List.all_eq_true] at this ⊢;obtain⟨⟨b1,b2⟩,b3,b4⟩:=this;refine⟨⟨b1,by simp;omega⟩,?_,b4⟩;rw[List.getD_eq_getElem?_getD,List.getElem?_append_left (by omega),← List.getD_eq_getElem?_getD];exact b3
        · rw[List.mem_singleton.1 hcm]
          unfold xFq
          simp only[Bool.and_eq_true,decide_eq_true_eq,List.all_eq_true];refine⟨⟨by omega,by simp⟩,?_,fun v hvv=>?_⟩
          · rw[Int.toNat_natCast,List.getD_eq_getElem?_getD,List.getElem?_append_right (Nat.le_refl _),Nat.sub_self,List.length_map]
            show(((q.length:Int))==((n:Nat):Int))=true
            rw[hqn];simp
          · obtain⟨l,hl,rfl⟩:=List.mem_map.1 hvv
            have:=(hcl l hl).1
            unfold okV
            simp only[Bool.and_eq_true,decide_eq_true_eq]
            omega
  · have hold:∀ c∈y.cons,sY ⟨x.size,x.rels++[xGg T n (q.map Literal.value)]⟩ vs c=sY x vs c:=fun c hcm=>by
      obtain⟨_,r,r0,r1,r2,r3⟩:=h.cv c hcm;have hlt:=(List.getElem?_eq_some_iff.1 r1).1
      unfold sY
      simp only;rw[List.getD_eq_getElem?_getD,List.getElem?_append_left hlt,← List.getD_eq_getElem?_getD]
    have hnew:sY ⟨x.size,x.rels++[xGg T n (q.map Literal.value)]⟩ vs ⟨(x.rels.length:Int),q.map Literal.var⟩=decide (atV vs (q.map Literal.var)∈(xGg T n (q.map Literal.value)).tuples):=by
      unfold sY
      simp only;rw[Int.toNat_natCast,List.getD_eq_getElem?_getD,List.getElem?_append_right (Nat.le_refl _),Nat.sub_self]
      rfl
    constructor
    · intro hS
      refine⟨hS.1,hS.2.1,fun c hcm=>?_⟩
      rcases List.mem_append.1 hcm with hcm | hcm
      · rw[hold c hcm];exact hS.2.2 c hcm
      · rw[List.mem_singleton.1 hcm,hnew,decide_eq_true_iff]
        show _∈(cY T n).filter _
        rw[List.mem_filter];refine⟨iN.2 ⟨by rw[xJp,List.length_map,hqn],fun a ha=>?_⟩,?_⟩
        · unfold atV at ha
          obtain⟨v,hvv,rfl⟩:=List.mem_map.1 ha;obtain⟨l,hl,rfl⟩:=List.mem_map.1 hvv;have hl1:=(hcl l hl).1;have hl2:=hS.1;have:=hS.2.1 (vs.getD l.var.toNat 0) (by rw[List.getD_eq_getElem?_getD,List.getElem?_eq_getElem (by omega)];exact List.getElem_mem _)
          omega
        · have:atV vs (q.map Literal.var)≠q.map Literal.value:=fun e=>hbad vs hS ((xNk vs q).1 e)
          simpa using this
    · intro hS
      exact⟨hS.1,hS.2.1,fun c hcm=>by rw[← hold c hcm];exact hS.2.2 c (List.mem_append_left _ hcm)⟩
end Go.Proofs.YtncganhbpbehaaaGreat
