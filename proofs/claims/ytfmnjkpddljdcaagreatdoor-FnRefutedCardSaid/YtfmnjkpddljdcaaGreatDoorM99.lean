import Derived.Test.YtfmnjkpddljdcaaGreatDoorM26
import Derived.Test.YtfmnjkpddljdcaaGreatDoorM21
import Derived.Laws.Bits64b
import Derived.Test.YtfmnjkpddljdcaaGreatDoorLL
namespace Go.Proofs.YtfmnjkpddljdcaaGreatDoor
set_option linter.unusedVariables false
set_option linter.unusedSimpArgs false
open Go.Lib
theorem xOq:∀ {l m:List Int},l.Pairwise (· < ·)→m.Pairwise (· < ·)→(∀ x,x∈l↔x∈m)→l=m
  | [],[],_,_,_=>rfl
  | [],b::m,_,_,h=>absurd ((h b).2 (by simp)) (by simp)
  | a::l,[],_,_,h=>absurd ((h a).1 (by simp)) (by simp)
  | a::l,b::m,hl,hm,h=>by
    have hab:a=b:=by
      rcases List.mem_cons.1 ((h a).1 (by simp)) with e | h1
      · exact e
      · rcases List.mem_cons.1 ((h b).2 (by simp)) with e | h2
        · exact e.symm
        · have:=List.rel_of_pairwise_cons hm h1
          have:=List.rel_of_pairwise_cons hl h2
          omega
    subst hab
    congr 1
    refine xOq (List.Pairwise.of_cons hl) (List.Pairwise.of_cons hm) (fun x=>⟨fun hx=>?_,fun hx=>?_⟩)
    · rcases List.mem_cons.1 ((h x).1 (by simp [hx])) with rfl | h1
      · have:=List.rel_of_pairwise_cons hl hx;omega
      · exact h1
    · rcases List.mem_cons.1 ((h x).2 (by simp [hx])) with rfl | h1
      · have:=List.rel_of_pairwise_cons hm hx;omega
      · exact h1
theorem pD {s:List Int} {j:Nat} (h:j<s.length):s.toArray[j]! = s[j]:=by
  rw[getElem!_pos s.toArray j (by simpa using h)]
  simp
theorem xKx {s:List Int} (hs:s.Pairwise (· ≤ ·)):(compactUpTo s.toArray s.length).Pairwise (· < ·):=by
  unfold compactUpTo
  rw[List.pairwise_map];refine List.Pairwise.imp_of_mem ?_ ((List.pairwise_lt_range (n:=s.length)).filter (keeps s.toArray));intro i j hi hj hij;have h1:=List.mem_filter.1 hi;have h2:=List.mem_filter.1 hj;have hjl:=List.mem_range.1 h2.1;have hk:=h2.2
  unfold keeps at hk
  have hk:=of_decide_eq_true hk;rw[pD (by omega),pD hjl];rw[pD hjl,pD (by omega)] at hk;have hne:s[j]≠s[j - 1]:=hk.resolve_left (by omega);have hle:=List.pairwise_iff_getElem.1 hs;have a1:s[j - 1]≤s[j]:=hle (j - 1) j (by omega) hjl (by omega)
  have a2:s[i]≤s[j - 1]:=by
    by_cases e:i=j - 1
    · subst e;exact Int.le_refl _
    · exact hle i (j - 1) (by omega) (by omega) (by omega)
  omega
theorem xJc {s:List Int} {x:Int}:x∈compactUpTo s.toArray s.length↔x∈s:=by
  unfold compactUpTo
  constructor
  · intro h
    obtain⟨j,hj,rfl⟩:=List.mem_map.1 h;have hjl:=List.mem_range.1 (List.mem_filter.1 hj).1;rw[pD hjl];exact List.getElem_mem hjl
  · intro h
    obtain⟨i,hi,e⟩:=List.getElem_of_mem h
    have key:∀ (n i:Nat) (hi:i<s.length),i≤n→s[i]=x→x∈((List.range s.length).filter (keeps s.toArray)).map (s.toArray[·]!):=by
      intro n
      induction n with
      | zero=>
        intro i hi h0 e
        obtain rfl:i=0:=by omega
        exact List.mem_map.2 ⟨0,List.mem_filter.2 ⟨List.mem_range.2 hi,by simp [keeps]⟩,by rw[pD hi];exact e⟩
      | succ n ih=>
        intro i hi h0 e
        by_cases hk:keeps s.toArray i=true
        · exact List.mem_map.2 ⟨i,List.mem_filter.2 ⟨List.mem_range.2 hi,hk⟩,by rw[pD hi];exact e⟩
        · unfold keeps at hk
          simp only[decide_eq_true_eq,not_or,ne_eq,Decidable.not_not] at hk;rw[pD hi,pD (by omega)] at hk;exact ih (i - 1) (by omega) (by omega) (by rw[← hk.2];exact e)
    exact key i i hi (Nat.le_refl _) e
theorem xGb {l F:List Int} (h1:l.length≤100000) (hF:F.Pairwise (· < ·)) (hm:∀ x,x∈F↔x∈l):lO l=some F:=by
  have hlen:(l.mergeSort fun x y=>decide (x≤y)).length=l.length:=List.length_mergeSort _;have hperm:(l.mergeSort fun x y=>decide (x≤y)).Perm l:=List.mergeSort_perm _ _
  have hsort:(l.mergeSort fun x y=>decide (x≤y)).Pairwise (· ≤ ·):=
    (List.pairwise_mergeSort (le:=fun x y:Int=>decide (x≤y)) (fun a b c h1 h2=>by simp at *;omega) (fun a b=>by simp;omega) l).imp (fun h=>by simpa using h)
  unfold lO zE
  rw[bS (by simp only[List.length_nil];omega),bnd_s,bnd_s,List.nil_append]
  unfold bW
  rw[if_pos (by omega),bnd_s]
  unfold aW
  rw[if_pos (by rw[hlen];omega),bnd_s]
  congr 1
  exact xOq (xKx hsort) hF (fun x=>by rw[xJc,hm,hperm.mem_iff])
theorem xJg {α σ ρ:Type} {f:Nat→α→σ→Option (Ctl σ ρ)} (I:Nat→σ→Prop):∀ (l:List α) (k:Nat) (s:σ),I k s→(∀ j x s,l[j]?=some x→I (k+j) s→∃ s',f (k+j) x s=some (.go s')∧I (k+j+1) s')→∃ s',qW f l k s=some (.nx s')∧I (k+l.length) s'
  | [],k,s,h,_=>⟨s,by simp [qW],h⟩
  | a::l,k,s,h,hh=>by
    obtain⟨s',h1,h2⟩:=hh 0 a s rfl h;rw[Nat.add_zero] at h1 h2
    obtain⟨t,h3,h4⟩:=xJg I l (k+1) s' h2 (fun j x s hj hI=>by
      have:=hh (j+1) x s (by simpa using hj) (by rw[show k+(j+1)=k+1+j by omega];exact hI)
      rwa [show k+(j+1)=k+1+j by omega] at this)
    exact⟨t,by rw[aJ h1];exact h3,by rw[List.length_cons,show k+(l.length+1)=k+1+l.length by omega];exact h4⟩
theorem xHs {α σ ρ:Type} {f:Nat→α→σ→Option (Ctl σ ρ)} {l:List α} {s0:σ} {k:σ→Option ρ} {r:ρ} (I:Nat→σ→Prop) (h0:I 0 s0) (hs:∀ j x s,l[j]?=some x→I j s→∃ s',f j x s=some (.go s')∧I (j+1) s') (hk:∀ s,I l.length s→k s=some r):kY (qW f l 0 s0) k=some r:=by
  obtain⟨s,h1,h2⟩:=xJg I l 0 s0 h0 (fun j x s hj hI=>by rw[Nat.zero_add] at hI ⊢;exact hs j x s hj hI);rw[Nat.zero_add] at h2;rw[h1,thn_nx];exact hk s h2
theorem iU {σ ρ:Type} {o:Option (Out σ ρ)} {k:σ→Option ρ} {s:σ} {r:ρ} (h:o=some (.nx s)) (hk:k s=some r):kY o k=some r:=by rw[h,thn_nx];exact hk
theorem cO {α ρ:Type} {o:Option α} {k:α→Option ρ} {a:α} {r:ρ} (h:o=some a) (hk:k a=some r):xY o k=some r:=by rw[h,bnd_s];exact hk
theorem xUa {α:Type} {l:List α} {j:Nat} {x:α} (h:l[j]?=some x):ix l (j:Int)=some x:=dX (by omega) (by simpa using h)
def wF (y:Instance) (l:List Int):List Con:=l.map (fun k=>y.cons.getD k.toNat (Con.mk 0 []))
theorem ixC {l:List Con} {v:Int} (h0:0≤v) (h1:v<l.length):ix l v=some (l.getD v.toNat (Con.mk 0 [])):=by
  refine dX h0 ?_;rw[List.getD_eq_getElem?_getD,List.getElem?_eq_getElem (by omega)]
  rfl
theorem Ri.some {x:Template} {y:Instance} (h:Ri x y) {cs:List Con} (hc:∀ c∈cs,c∈y.cons) (hl:cs.length≤24):Ri x (Instance.mk y.vars cs):=by
  refine⟨h.small,?_,h.five⟩;have:=h.val
  unfold wL at this ⊢
  simp only[Bool.and_eq_true,decide_eq_true_eq,List.all_eq_true] at this ⊢;exact⟨this.1,this.2.1,by omega,fun c hcc=>this.2.2.2 c (hc c hcc)⟩
theorem xBa {x:Template} {y:Instance} (h:Ri x y) {L:List Int} (hm:∀ a∈L,0≤a∧a<(y.cons.length:Int)) (hp:L.Pairwise (· < ·)) (hll:L.length≤24):bB x y L=some (⟨y.vars,wF y L⟩,0):=by
  have hc:=h.cons
  have hr:jT L 0 ((y.cons.length:Int) - 1)=some true:=by
    unfold jT
    refine xHs (fun _ _=>True) trivial (fun j a s hj _=>⟨(),?_,trivial⟩) (fun _ _=>rfl);have hjl:=(List.getElem?_eq_some_iff.1 hj).1;have ha:=hm a (List.mem_of_getElem? hj);refine iU (s:=false) ?_ rfl;rw[mJ,bnd_s,if_neg (by simp;omega)]
    by_cases h0:0<(j:Int)
    · obtain⟨i,rfl⟩:∃ i,j=i+1:=⟨j - 1,by omega⟩
      have hi:L[i]?=some L[i]:=List.getElem?_eq_getElem (by omega)
      have hlt:L[i]<a:=by
        have:=List.pairwise_iff_getElem.1 hp i (i+1) (by omega) hjl (by omega);rw[(List.getElem?_eq_some_iff.1 hj).2] at this;exact this
      rw[if_pos (by simp),kI (by omega) (by omega),bnd_s,show((i+1:Nat):Int) - 1=(i:Int) by omega,xUa hi,bnd_s,decide_eq_false (by omega)]
    · rw[if_neg (by simpa using h0)]
  unfold bB
  refine cO h.inst.1 ?_;rw[if_neg (by simp)];refine cO (kI (by omega) (by omega)) (cO hr ?_);rw[if_neg (by simp)];refine xHs (fun k s=>s=wF y (L.take k)) rfl (fun j a s hj hI=>?_) (fun s hI=>by rw[hI,List.take_length]);have hjl:=(List.getElem?_eq_some_iff.1 hj).1;have ha:=hm a (List.mem_of_getElem? hj);have hcc:=ixC (l:=y.cons) ha.1 ha.2
  have hmem:y.cons.getD a.toNat (Con.mk 0 [])∈y.cons:=by rw[List.getD_eq_getElem?_getD,List.getElem?_eq_getElem (by omega)];exact List.getElem_mem _
  have h4:=(h.cok _ hmem).four
  have hsl:s.length≤24:=by rw[hI];unfold wF;rw[List.length_map,List.length_take];omega
  refine⟨s++[y.cons.getD a.toNat (Con.mk 0 [])],?_,?_⟩
  · rw[hcc,bnd_s,own_eq _ (by omega),bnd_s,bS (by simp only[List.length_cons,List.length_nil];omega),bnd_s]
  · rw[hI,List.take_add_one,hj]
    unfold wF
    rw[List.map_append]
    rfl
def put (n:Int):List Int→List Int
  | []=>[n]
  | x::r=>if n<x then n::x::r else if n=x then x::r else x::put n r
theorem xHf {n:Int}:∀ {l:List Int} {z:Int},z∈put n l↔z=n∨z∈l
  | [],z=>by simp [put]
  | x::r,z=>by
    unfold put
    by_cases h1:n<x
    · rw[if_pos h1];simp
    · rw[if_neg h1]
      by_cases h2:n=x
      · rw[if_pos h2];subst h2;simp
      · rw[if_neg h2,List.mem_cons,xHf,List.mem_cons]
        constructor
        · rintro (h | h | h)
          · exact .inr (.inl h)
          · exact .inl h
          · exact .inr (.inr h)
        · rintro (h | h | h)
          · exact .inr (.inl h)
          · exact .inl h
          · exact .inr (.inr h)
theorem xPw {n:Int}:∀ {l:List Int},l.Pairwise (· < ·)→(put n l).Pairwise (· < ·)
  | [],_=>by simp [put]
  | x::r,h=>by
    have hx:∀ {z},z∈r→x<z:=fun hz=>List.rel_of_pairwise_cons h hz;have hr:=List.Pairwise.of_cons h
    unfold put
    by_cases h1:n<x
    · rw[if_pos h1]
      exact List.Pairwise.cons (fun z hz=>by rcases List.mem_cons.1 hz with rfl | hz;exact h1;have:=hx hz;omega) h
    · rw[if_neg h1]
      by_cases h2:n=x
      · rw[if_pos h2];exact h
      · rw[if_neg h2]
        exact List.Pairwise.cons (fun z hz=>by rcases xHf.1 hz with rfl | hz;omega;exact hx hz) (xPw hr)
theorem xMc (n:Int):∀ l:List Int,(put n l).length≤l.length+1
  | []=>by simp [put]
  | x::r=>by
    have:=xMc n r
    unfold put
    split
    · simp
    · split
      · simp
      · simp only[List.length_cons];omega
def xKa (n:Int):Nat→Int→(List Int)×Bool→Option (Ctl ((List Int)×Bool) (List Int)):=fun(k83:Nat) (x85:Int) (s:(List Int)×Bool)=>
    match s with
    | (s75,s78)=>
    kY (σ:=Bool) (
     if (!s78) then  some (.nx (decide (n≤x85))) else  some (.nx false)) fun s97=>
    kY (σ:=(List Int)×Bool) (
     if s97 then
      if (decide (n<x85)) then
       xY (ap s75 ([n])) fun z127=>
       some (.nx (z127,true))
      else
       some (.nx (s75,true))
     else
      some (.nx (s75,s78))) fun(s116,s119)=>
    xY (ap s116 ([x85])) fun z136=>
    some (.go (z136,s119))
theorem xEp (n:Int):∀ (l:List Int) (k:Nat) (s:List Int),s.length+l.length≤100000→qW (xKa n) l k (s,true)=some (.nx (s++l,true))
  | [],k,s,_=>by simp [qW]
  | x::r,k,s,h=>by
    rw[List.length_cons] at h
    rw[aJ (s':=(s++[x],true)) (by
      unfold xKa
      simp only[Bool.not_true,Bool.false_eq_true,if_false,thn_nx]
      rw[bS (by simp only[List.length_cons,List.length_nil];omega),bnd_s]),xEp n r (k+1) _ (by simp only[List.length_append,List.length_singleton];omega)]
    simp
theorem xHw (n:Int):∀ (l:List Int) (k:Nat) (s:List Int),s.length+l.length≤99998→∃ o d,qW (xKa n) l k (s,false)=some (.nx (o,d))∧(if d then o else o++[n])=s++put n l∧o.length≤s.length+l.length+1
  | [],k,s,_=>⟨s,false,by simp [qW],by simp [put],by simp⟩
  | x::r,k,s,h=>by
    rw[List.length_cons] at h
    by_cases h1:n≤x
    · by_cases h2:n<x
      · refine⟨s++[n,x]++r,true,?_,?_,?_⟩
        · rw[aJ (s':=(s++[n]++[x],true)) (by
            unfold xKa
            simp only[Bool.not_false,if_true,thn_nx,decide_eq_true h1,decide_eq_true h2];rw[bS (by simp only[List.length_cons,List.length_nil];omega),bnd_s,thn_nx]
            dsimp only
            rw[bS (by simp only[List.length_append,List.length_cons,List.length_nil];omega),bnd_s]),xEp n r (k+1) _ (by simp only[List.length_append,List.length_singleton];omega)]
          simp
        · unfold put;rw[if_pos h2];simp
        · simp only[List.length_append,List.length_cons,List.length_nil];omega
      · have h3:n=x:=by omega
        refine⟨s++[x]++r,true,?_,?_,?_⟩
        · rw[aJ (s':=(s++[x],true)) (by
            unfold xKa
            simp only[Bool.not_false,if_true,thn_nx,decide_eq_true h1,decide_eq_false h2,Bool.false_eq_true,if_false]
            rw[bS (by simp only[List.length_cons,List.length_nil];omega),bnd_s]),xEp n r (k+1) _ (by simp only[List.length_append,List.length_singleton];omega)]
        · unfold put;rw[if_neg h2,if_pos h3];simp
        · simp only[List.length_append,List.length_cons,List.length_nil];omega
    · obtain⟨o,d,e1,e2,e3⟩:=xHw n r (k+1) (s++[x]) (by simp only[List.length_append,List.length_singleton];omega)
      refine⟨o,d,?_,?_,?_⟩
      · rw[aJ (s':=(s++[x],false)) (by
          unfold xKa
          simp only[Bool.not_false,if_true,thn_nx,decide_eq_false h1,Bool.false_eq_true,if_false]
          rw[bS (by simp only[List.length_cons,List.length_nil];omega),bnd_s]),e1]
      · rw[e2,show put n (x::r)=x::put n r from by rw[put,if_neg (by omega),if_neg (by omega)],List.append_assoc];rfl
      · simp only[List.length_append,List.length_cons,List.length_nil] at e3 ⊢;omega
theorem xNa (l:List Int) (n:Int) (h:l.length≤90000):lN l n=some (put n l):=by
  obtain⟨o,d,e1,e2,e3⟩:=xHw n l 0 [] (by simp only[List.length_nil];omega)
  unfold lN
  show kY (qW (xKa n) l 0 ([],false)) _=_
  rw[e1,thn_nx];rw[List.nil_append] at e2;simp only[List.length_nil] at e3
  cases d with
  | true=>rw[if_pos rfl] at e2;rw[← e2];rfl
  | false=>
    rw[if_neg (by simp)] at e2
    dsimp only
    rw[Bool.not_false,if_pos rfl,bS (by simp only[List.length_cons,List.length_nil];omega),bnd_s,e2]
def nl (L:List Line):List Int:=(L.filter fun l=>l.kind==2).map Line.con
theorem xAr:∀ (L:List Line) (k:Nat) (s:List Int),s.length+L.length≤100000→qW (σ:=(List Int)) (ρ:=(List Int)×Int) (fun(k60:Nat) (x62:Line) (s54:(List Int))=>
    if (x62.kind==2) then
     xY (ap s54 ([x62.con])) fun z78=>
     some (.go z78)
    else
     some (.go s54)) L k s=some (.nx (s++nl L))
  | [],k,s,_=>by simp [qW,nl]
  | l::L,k,s,h=>by
    rw[List.length_cons] at h
    by_cases hk:(l.kind==2)=true
    · rw[aJ (s':=s++[l.con]) (by simp only[hk,if_true];rw[bS (by simp only[List.length_cons,List.length_nil];omega),bnd_s]),xAr L (k+1) _ (by simp only[List.length_append,List.length_singleton];omega)]
      simp [nl,List.filter_cons,hk]
    · rw[aJ (s':=s) (by simp only[hk];rfl),xAr L (k+1) s (by omega)]
      simp [nl,List.filter_cons,hk]
theorem xAh:∀ (L:List Line) (k:Nat) (s:List Int),s.length+L.length≤80000→s.Pairwise (· < ·)→∃ o,qW (σ:=(List Int)) (ρ:=(List Int)×Int) (fun(k62:Nat) (x64:Line) (s56:(List Int))=>
    if (x64.kind==2) then
     xY (lN s56 x64.con) fun z80=>
     some (.go z80)
    else
     some (.go s56)) L k s=some (.nx o)∧o.Pairwise (· < ·)∧∀ z,z∈o↔z∈s∨z∈nl L
  | [],k,s,_,hs=>⟨s,by simp [qW],hs,fun z=>by simp [nl]⟩
  | l::L,k,s,h,hs=>by
    rw[List.length_cons] at h
    by_cases hk:(l.kind==2)=true
    · have hp:=xMc l.con s
      obtain⟨o,e1,e2,e3⟩:=xAh L (k+1) (put l.con s) (by omega) (xPw hs);refine⟨o,by rw[aJ (s':=put l.con s) (by simp only[hk,if_true];rw[xNa _ _ (by omega),bnd_s]),e1],e2,fun z=>?_⟩;rw[e3,xHf];simp only[nl,List.filter_cons,hk,if_true,List.map_cons,List.mem_cons]
      constructor
      · rintro ((h | h) | h)
        · exact .inr (.inl h)
        · exact .inl h
        · exact .inr (.inr h)
      · rintro (h | h | h)
        · exact .inl (.inr h)
        · exact .inl (.inl h)
        · exact .inr h
    · obtain⟨o,e1,e2,e3⟩:=xAh L (k+1) s (by omega) hs
      refine⟨o,by rw[aJ (s':=s) (by simp only[hk];rfl),e1],e2,fun z=>?_⟩;rw[e3]
      simp [nl,List.filter_cons,hk]
end Go.Proofs.YtfmnjkpddljdcaaGreatDoor
namespace Go.Proofs.YtfmnjkpddljdcaaGreatDoor
set_option linter.unusedVariables false
set_option linter.unusedSimpArgs false
set_option maxRecDepth 100000
theorem xCq {σ ρ:Type} {f:Nat→σ→Option (Ctl σ ρ)} (I:Nat→σ→Prop):∀ (m k:Nat) (s:σ),I k s→(∀ j s,k≤j→j<k+m→I j s→∃ s',f j s=some (.go s')∧I (j+1) s')→∃ s',eJ f m k s=some (.nx s')∧I (k+m) s'
  | 0,k,s,h,_=>⟨s,rfl,h⟩
  | m+1,k,s,h,hh=>by
    obtain⟨s',h1,h2⟩:=hh k s (by omega) (by omega) h;obtain⟨t,h3,h4⟩:=xCq I m (k+1) s' h2 (fun j s hj hm=>hh j s (by omega) (by omega));exact⟨t,by rw[sY h1];exact h3,by rw[show k+(m+1)=k+1+m by omega];exact h4⟩
theorem xCn {σ ρ:Type} {f:σ→Option (Ctl σ ρ)} (I:Nat→σ→Prop) (go:∀ c s,I (c+1) s→∃ s',f s=some (.go s')∧I c s') (stop:∀ s,I 0 s→f s=some (.brk s)):∀ (c N:Nat) (s:σ),c<N→I c s→∃ s',lD f N s=some (.nx s')∧I 0 s'
  | c,0,s,h,_=>by omega
  | 0,N+1,s,_,h=>⟨s,iP (stop s h),h⟩
  | c+1,N+1,s,hN,h=>by
    obtain⟨s',h1,h2⟩:=go c s h;obtain⟨t,h3,h4⟩:=xCn I go stop c N s' (by omega) h2;exact⟨t,by rw[mY h1];exact h3,h4⟩
theorem xTl (x:Int):∃ n:Nat,n<18446744073709551616∧IntKind.u64.wrap x=(n:Int):=by
  have h:IntKind.u64.wrap x=x % 18446744073709551616:=by
    unfold IntKind.wrap
    simp [show IntKind.u64.bits=64 from rfl,show IntKind.u64.signed=false from rfl]
  rw[h];exact⟨(x % 18446744073709551616).toNat,by omega,by omega⟩
theorem xMf (x:Int):0≤IntKind.i64.wrap (Go.bits .and .u64 (IntKind.u64.wrap x / 2 ^ (40:Int).toNat) 255):=by
  obtain⟨n,h1,h2⟩:=xTl x;rw[h2,show((n:Int) / 2 ^ (40:Int).toNat)=((n / 1099511627776:Nat):Int) by simp,show(255:Int)=((255:Nat):Int) from rfl,bits_and_u64_nat _ _ (by omega) (by decide)];have h3:(n / 1099511627776) &&& 255≤255:=Nat.and_le_right;rw[IntWalk.i64_in _ ⟨by omega,by omega⟩]
  omega
theorem xSz (code:List UInt8) {at' seed:Int} (h:0≤at'∧at'≤1000000):∃ v s,cM code at' seed=some (v,at'+1,s)∧0≤v:=by
  unfold cM
  have hb:∃ b:Int,0≤b∧(if (decide (at'<(code.length:Int)))=true then xY (ix code at') fun z23=>some (Out.nx (σ:=Int) (ρ:=Int×Int×Int) (z23.toNat:Int)) else some (.nx 0))=some (.nx b):=by
    by_cases hl:at'<(code.length:Int)
    · refine⟨(code[at'.toNat]'(by omega)).toNat,by omega,?_⟩
      rw[if_pos (by simpa using hl),dX h.1 (List.getElem?_eq_getElem (by omega)),bnd_s]
    · exact⟨0,by omega,by rw[if_neg (by simpa using hl)]⟩
  obtain⟨b,h0,e⟩:=hb;rw[e,thn_nx,kI (by omega) (by omega),bnd_s,xLv h0,bnd_s]
  split
  · exact⟨_,_,rfl,h0⟩
  · exact⟨_,_,rfl,xMf _⟩
theorem xLy {x n:Int} (h:0≤x) (hn:1<n):∃ v,rm x n=some v∧0≤v∧v<n:=by
  refine⟨x.tmod n,by unfold rm;rw[if_neg (by omega)],Int.tmod_nonneg _ h,Int.tmod_lt_of_pos _ (by omega)⟩
theorem cT (code:List UInt8) {at' seed:Int} (n:Int) (h:0≤at'∧at'≤1000000) (hn:1≤n∧n≤200):∃ v a s,oR code at' seed n=some (v,a,s)∧(0≤v∧v<n)∧at'≤a∧a≤at'+1:=by
  unfold oR
  by_cases h1:n≤1
  · rw[if_pos (by simpa using h1)]
    exact⟨0,at',seed,rfl,by omega,by omega⟩
  · rw[if_neg (by simpa using h1)]
    obtain⟨x,s,e,hx⟩:=xSz code (seed:=seed) h;obtain⟨v,e2,h2⟩:=xLy hx (show 1<n by omega);rw[e,bnd_s,if_neg (by simp<;>omega),e2,bnd_s];exact⟨v,_,_,rfl,h2,by simp only;omega,by simp only;omega⟩
theorem xHo {σ ρ:Type} {f:σ→Option (Ctl σ ρ)} (I J:σ→Prop) (μ:σ→Nat) (step:∀ s,I s→(∃ s',f s=some (.go s')∧I s'∧μ s'<μ s)∨(∃ s',f s=some (.brk s')∧J s')):∀ (N:Nat) (s:σ),μ s<N→I s→∃ s',lD f N s=some (.nx s')∧J s'
  | 0,s,h,_=>by omega
  | N+1,s,h,hI=>by
    rcases step s hI with ⟨s',h1,h2,h3⟩ | ⟨s',h1,h2⟩
    · obtain⟨t,h4,h5⟩:=xHo I J μ step N s' (by omega) h2
      exact⟨t,by rw[mY h1];exact h4,h5⟩
    · exact⟨s',iP h1,h2⟩
theorem xKc (code:List UInt8) {p seed:Int} (n:Int) (h:0≤p∧p≤1000000) (hn:1≤n∧n≤200):∃ v a s,cH code p seed n=some (v,a,s)∧p≤a∧a≤p+1:=by
  obtain⟨v,a,s,e,_,h1,h2⟩:=cT code (seed:=seed) n h hn
  unfold cH
  rw[e,bnd_s];exact⟨_,_,_,rfl,h1,h2⟩
theorem nG (code:List UInt8) {p seed:Int} (l:List Int) (h:0≤p∧p≤1000000) (hn:1≤l.length∧l.length≤200):∃ v a s,kN code p seed l=some (v,a,s)∧v∈l∧p≤a∧a≤p+1:=by
  obtain⟨v,a,s,e,hv,h1,h2⟩:=cT code (seed:=seed) (l.length:Int) h (by omega)
  unfold kN
  rw[e,bnd_s,dX hv.1 (List.getElem?_eq_getElem (by omega)),bnd_s];exact⟨_,_,_,rfl,List.getElem_mem _,h1,h2⟩
def RB (r:Rel):Prop:=(1≤r.arity∧r.arity≤4)∧r.tuples.length≤300∧∀ t∈r.tuples,(t.length:Int)=r.arity
theorem xCw (code:List UInt8) {p seed:Int} {T n N:Nat} (h:0≤p∧p≤900000) (hT:1≤T∧T≤4) (hn:1≤n∧n≤4) (hN:10≤N):∃ r a s,dO N code p seed (T:Int) (n:Int)=some (r,a,s)∧RB r∧p≤a∧a≤p+600:=by
  have hlen:=xJo hT hn
  unfold dO
  obtain⟨v,a,s,e,hv,ha1,ha2⟩:=cT code (seed:=seed) 5 (at':=p) (by omega) (by decide);rw[e,bnd_s,(xVe hT hn hN).2,bnd_s,Int.toNat_natCast];simp only
  obtain⟨⟨a1,s1,t1⟩,e1,i1⟩:=xCq (f:=fun(k209:Nat) (s:Int×Int×(List (List Int)))=>
    match s with
    | (s197,s199,s200)=>
    kY (σ:=Bool×Int×Int) (
     xY (oR code s197 s199 5) fun z238=>
     if (decide (z238.1≤v)) then  some (.nx (true,z238.2.1,z238.2.2)) else  xY (cH code z238.2.1 z238.2.2 8) fun z247=>
      some (.nx (z247.1,z247.2.1,z247.2.2))) fun(s234,s235,s237)=>
    if s234 then
     xY (bM N (T:Int) (n:Int) (k209:Int)) fun z255=>
     xY (ap s200 ([z255])) fun z262=>
     some (.go (s235,s237,z262))
    else
     some (.go (s235,s237,s200))) (ρ:=Rel×Int×Int) (fun k s=>p≤s.1∧s.1≤p+1+2*k∧s.2.2.length≤k∧∀ t∈s.2.2,(t.length:Int)=n) (iY T n).length 0 (a,s,[]) ⟨by first | omega | (simp only;omega),by first | omega | (simp only;omega),by simp,fun t ht=>nomatch ht⟩ (fun j st _ hj hI=>by
    obtain⟨a0,s0,t0⟩:=st;obtain⟨h1,h2,h3,h4⟩:=hI;simp only at h1 h2 h3 h4;obtain⟨v2,a2,s2,e2,hv2,hb1,hb2⟩:=cT code (seed:=s0) 5 (at':=a0) (by omega) (by decide)
    have hq:∃ b a3 s3,(xY (oR code a0 s0 5) fun z238=>
     if (decide (z238.1≤v)) then  some (Out.nx (σ:=Bool×Int×Int) (ρ:=Ctl (Int×Int×(List (List Int))) (Rel×Int×Int)) (true,z238.2.1,z238.2.2)) else  xY (cH code z238.2.1 z238.2.2 8) fun z247=>
      some (.nx (z247.1,z247.2.1,z247.2.2)))=some (.nx (b,a3,s3))∧p≤a3∧a3≤a0+2:=by
      rw[e2,bnd_s];simp only
      split
      · exact⟨_,_,_,rfl,by omega,by omega⟩
      · obtain⟨v4,a4,s4,e4,hc1,hc2⟩:=xKc code (seed:=s2) 8 (p:=a2) (by omega) (by decide)
        rw[e4,bnd_s];exact⟨_,_,_,rfl,by first | omega | (simp only;omega),by first | omega | (simp only;omega)⟩
    obtain⟨b,a3,s3,e3,hd1,hd2⟩:=hq;simp only;rw[e3,thn_nx];simp only
    cases b with
    | true=>
      have hdg:bM N (T:Int) (n:Int) (j:Int)=some (iY T n)[j]:=xTv hT hn hN (by omega);rw[if_pos rfl,hdg,bnd_s,bS (by simp only[List.length_cons,List.length_nil];omega),bnd_s];refine⟨_,rfl,by first | omega | (simp only;omega),by first | omega | (simp only;omega),by simp only[List.length_append,List.length_singleton];omega,fun t ht=>?_⟩
      rcases List.mem_append.1 ht with ht | ht
      · exact h4 t ht
      · rw[List.mem_singleton.1 ht,(rR.1 (List.getElem_mem _)).1]
    | false=>
      rw[if_neg (by simp)]
      exact⟨_,rfl,by first | omega | (simp only;omega),by first | omega | (simp only;omega),by first | omega | (simp only;omega),h4⟩)
  rw[e1,thn_nx];obtain⟨h1,h2,h3,h4⟩:=i1;simp only[Nat.zero_add] at h1 h2 h3 h4;exact⟨_,_,_,rfl,⟨by first | omega | (simp only;omega),by first | omega | (simp only;omega),h4⟩,h1,by omega⟩
theorem yW (code:List UInt8) {p seed:Int} {T N:Nat} (h:0≤p∧p≤800000) (hT:1≤T∧T≤4) (hN:100≤N):∃ t a s,cA N code p seed (T:Int)=some (t,a,s)∧t.size=T∧t.rels.length≤4∧(∀ r∈t.rels,RB r)∧p≤a∧a≤p+3000:=by
  unfold cA
  obtain⟨v,a,s,e,hv,ha1,ha2⟩:=cT code (seed:=seed) 4 (at':=p) (by omega) (by decide);rw[e,bnd_s];simp only
  obtain⟨⟨c1,a1,s1,t1⟩,e1,i1⟩:=xCn (ρ:=Template×Int×Int) (f:=fun(s:Int×Int×Int×(List Rel))=>
    match s with
    | (s367,s369,s371,s372)=>
    if (decide (0<s367)) then
     xY (kN code s369 s371 ([1,2,2,2,3])) fun z401=>
     xY (dO N code z401.2.1 z401.2.2 (T:Int) z401.1) fun z409=>
     xY (ap s372 ([(Rel.mk z409.1.arity z409.1.tuples)])) fun z422=>
     xY (ck (s367 - 1)) fun z549=>
     some (.go (z549,z409.2.1,z409.2.2,z422))
    else
     some (.brk (s367,s369,s371,s372))) (fun c s=>s.1=(c:Int)∧p≤s.2.1∧s.2.1+650*c≤p+2900∧s.2.2.2.length+c≤4∧∀ r∈s.2.2.2,RB r) (fun c st hI=>by
      obtain⟨c0,a0,s0,t0⟩:=st;obtain⟨h1,h2,h3,h4,h5⟩:=hI;simp only at h1 h2 h3 h4 h5;subst h1;obtain⟨v2,a2,s2,e2,hv2,hb1,hb2⟩:=nG code (seed:=s0) [1,2,2,2,3] (p:=a0) (by omega) (by decide);have hv3:∃ n:Nat,v2=n∧1≤n∧n≤4:=⟨v2.toNat,by simp at hv2;omega,by simp at hv2;omega,by simp at hv2;omega⟩;obtain⟨n,rfl,hn1,hn2⟩:=hv3;obtain⟨r,a3,s3,e3,hr,hd1,hd2⟩:=xCw code (p:=a2) (seed:=s2) (N:=N) (by omega) hT ⟨hn1,hn2⟩ (by omega);refine⟨(((c:Nat):Int),a3,s3,t0++[r]),?_,rfl,by first | omega | (simp only;omega),by first | omega | (simp only;omega),by simp only[List.length_append,List.length_singleton];omega,fun q hq=>?_⟩
      · simp only
        rw[if_pos (by simp<;>omega),e2,bnd_s,e3,bnd_s];simp only;rw[bS (by simp only[List.length_cons,List.length_nil];omega),bnd_s,kI (by omega) (by omega),bnd_s]
        simp
      · rcases List.mem_append.1 hq with hq | hq
        · exact h5 q hq
        · rw[List.mem_singleton.1 hq];exact hr) (fun st hI=>by
      obtain⟨c0,a0,s0,t0⟩:=st;obtain⟨h1,_⟩:=hI;simp only at h1;subst h1
      rfl) v.toNat N (v,a,s,[]) (by omega) ⟨by first | omega | (simp only;omega),by first | omega | (simp only;omega),by first | omega | (simp only;omega),by simp only[List.length_nil];omega,fun r hr=>nomatch hr⟩
  rw[e1,thn_nx];obtain⟨h1,h2,h3,h4,h5⟩:=i1;simp only at h1 h2 h3 h4 h5;exact⟨_,_,_,rfl,rfl,by first | omega | (simp only;omega),h5,h2,by first | omega | (simp only;omega)⟩
theorem xGy (code:List UInt8) {p seed:Int} {t:Template} {N:Nat} (h:0≤p∧p≤850000) (hl:t.rels.length≤4) (hr:∀ r∈t.rels,RB r) (hN:100≤N):∃ x a s,jW N code p seed t 5=some (x,a,s)∧(1≤x.vars∧x.vars≤5)∧x.cons.length≤6∧p≤a∧a≤p+100:=by
  unfold jW
  obtain⟨v,a,s,e,hv,ha1,ha2⟩:=cT code (seed:=seed) 5 (at':=p) (by omega) (by decide);obtain⟨w,b,s',e',hw,hb1,hb2⟩:=cT code (seed:=s) 7 (at':=a) (by omega) (by decide);rw[e,bnd_s];simp only;rw[kI (by omega) (by omega),bnd_s,e',bnd_s];simp only
  obtain⟨⟨c1,a1,s1,t1⟩,e1,i1⟩:=xHo (ρ:=Instance×Int×Int) (f:=fun(s:Int×Int×Int×(List Con))=>
    match s with
    | (s538,s540,s542,s543)=>
    kY (σ:=Bool) (
     if (decide (0<s538)) then  some (.nx (decide (0<(t.rels.length:Int)))) else  some (.nx false)) fun s569=>
    if s569 then
     xY (oR code s540 s542 (t.rels.length:Int)) fun z582=>
     xY (ix t.rels z582.1) fun z595=>
     kY (σ:=Int×Int×Int×(List Int)) (
      lD (σ:=Int×Int×Int×(List Int)) (ρ:=(Ctl (Int×Int×Int×(List Con)) (Instance×Int×Int))) (fun(s:Int×Int×Int×(List Int))=>
        match s with
        | (s722,s724,s726,s727)=>
        if (decide (0<s722)) then
         xY (oR code s724 s726 (1+v)) fun z745=>
         xY (ap s727 ([z745.1])) fun z755=>
         xY (ck (s722 - 1)) fun z793=>
         some (.go (z793,z745.2.1,z745.2.2,z755))
        else
         some (.brk (s722,s724,s726,s727))) N (z595.arity,z582.2.1,z582.2.2,[])) fun(s730,s732,s734,s735)=>
     xY (ap s543 ([(Con.mk z582.1 s735)])) fun z799=>
     xY (ck (s538 - 1)) fun z803=>
     some (.go (z803,s732,s734,z799))
    else
     some (.brk (s538,s540,s542,s543))) (fun s=>(0≤s.1∧s.1≤6)∧p≤s.2.1∧s.2.1+10*s.1≤p+70∧(s.2.2.2.length:Int)+s.1≤6) (fun s=>p≤s.2.1∧s.2.1≤p+70∧s.2.2.2.length≤6) (fun s=>s.1.toNat) (fun st hI=>by
      obtain⟨c0,a0,s0,t0⟩:=st;obtain⟨h1,h2,h3,h4⟩:=hI;simp only at h1 h2 h3 h4
      by_cases hc:0<c0
      · by_cases hr0:0<(t.rels.length:Int)
        · left
          obtain⟨v2,a2,s2,e2,hv2,hb1,hb2⟩:=cT code (seed:=s0) (t.rels.length:Int) (at':=a0) (by omega) (by omega)
          have hlt:v2.toNat<t.rels.length:=by omega
          have hrb:=hr _ (List.getElem_mem hlt);obtain⟨hra,_,_⟩:=hrb
          obtain⟨⟨c3,a3,s3,t3⟩,e3,i3⟩:=xCn (ρ:=(Ctl (Int×Int×Int×(List Con)) (Instance×Int×Int))) (f:=fun(s:Int×Int×Int×(List Int))=>
        match s with
        | (s722,s724,s726,s727)=>
        if (decide (0<s722)) then
         xY (oR code s724 s726 (1+v)) fun z745=>
         xY (ap s727 ([z745.1])) fun z755=>
         xY (ck (s722 - 1)) fun z793=>
         some (.go (z793,z745.2.1,z745.2.2,z755))
        else
         some (.brk (s722,s724,s726,s727))) (fun c s=>s.1=(c:Int)∧a2≤s.2.1∧s.2.1+c≤a2+4∧s.2.2.2.length+c≤4) (fun c st hI=>by
            obtain⟨c0,a0,s0,t0⟩:=st;obtain⟨h1,h2,h3,h4⟩:=hI;simp only at h1 h2 h3 h4;subst h1;obtain⟨v5,a5,s5,e5,hv5,hb5,hb6⟩:=cT code (seed:=s0) (1+v) (at':=a0) (by omega) (by omega);refine⟨(((c:Nat):Int),a5,s5,t0++[v5]),?_,rfl,by first | omega | (simp only;omega),by first | omega | (simp only;omega),by simp only[List.length_append,List.length_singleton];omega⟩;simp only;rw[if_pos (by simp<;>omega),e5,bnd_s];simp only;rw[bS (by simp only[List.length_cons,List.length_nil];omega),bnd_s,kI (by omega) (by omega),bnd_s]
            simp) (fun st hI=>by
            obtain⟨c0,a0,s0,t0⟩:=st;obtain⟨h1,_⟩:=hI;simp only at h1;subst h1
            rfl) (t.rels[v2.toNat]).arity.toNat N ((t.rels[v2.toNat]).arity,a2,s2,[]) (by omega) ⟨by first | omega | (simp only;omega),by first | omega | (simp only;omega),by first | omega | (simp only;omega),by simp only[List.length_nil];omega⟩
          obtain⟨q1,q2,q3,q4⟩:=i3;simp only at q1 q2 q3 q4;refine⟨(c0 - 1,a3,s3,t0++[Con.mk v2 t3]),?_,⟨by first | omega | (simp only;omega),by first | omega | (simp only;omega),by first | omega | (simp only;omega),by simp only[List.length_append,List.length_singleton];omega⟩,by first | omega | (simp only;omega)⟩;simp only;rw[if_pos (by simpa using hc),thn_nx,if_pos (by simpa using hr0),e2,bnd_s,dX hv2.1 (List.getElem?_eq_getElem hlt),bnd_s];simp only;rw[e3,thn_nx];simp only;rw[bS (by simp only[List.length_cons,List.length_nil];omega),bnd_s,kI (by omega) (by omega),bnd_s]
        · right
          refine⟨(c0,a0,s0,t0),?_,by first | omega | (simp only;omega),by first | omega | (simp only;omega),by first | omega | (simp only;omega)⟩;simp only;rw[if_pos (by simpa using hc),thn_nx,if_neg (by simpa using hr0)]
      · right
        refine⟨(c0,a0,s0,t0),?_,by first | omega | (simp only;omega),by first | omega | (simp only;omega),by first | omega | (simp only;omega)⟩;simp only
        rw[if_neg (by simpa using hc),thn_nx,if_neg (by simp)]) N (w,b,s',[]) (by first | omega | (simp only;omega)) ⟨by first | omega | (simp only;omega),by first | omega | (simp only;omega),by first | omega | (simp only;omega),by simp only[List.length_nil];omega⟩
  rw[e1,thn_nx];obtain⟨h1,h2,h3⟩:=i1;simp only at h1 h2 h3;exact⟨_,_,_,rfl,by first | omega | (simp only;omega),by first | omega | (simp only;omega),h1,by first | omega | (simp only;omega)⟩
theorem xAb (code:List UInt8) {p seed:Int} (h:0≤p∧p≤1000000):∃ (T:Nat) (a s:Int),dZ code p seed=some ((T:Int),a,s)∧(1≤T∧T≤4)∧p≤a∧a≤p+1:=by
  obtain⟨v,a,s,e,hv,h1,h2⟩:=nG code (seed:=seed) [2,2,3,3,1,4,2] h (by decide)
  unfold dZ
  rw[e,bnd_s];refine⟨v.toNat,a,s,?_,by simp at hv;omega,h1,h2⟩;rw[show((v.toNat:Nat):Int)=v by simp at hv;omega]
theorem xUg (code:List UInt8) {p seed:Int} {T N:Nat} (h:0≤p∧p≤850000) (hT:1≤T∧T≤4) (hN:100≤N):∃ r a s,nH N code p seed (T:Int)=some (r,a,s)∧RB r∧p≤a∧a≤p+700:=by
  unfold nH
  obtain⟨v,a,s,e,hv,ha1,ha2⟩:=cT code (seed:=seed) 3 (at':=p) (by omega) (by decide);obtain⟨n,hn,hn1,hn2⟩:∃ n:Nat,1+v=n∧1≤n∧n≤4:=⟨(1+v).toNat,by omega,by omega,by omega⟩;obtain⟨r,a3,s3,e3,hr,hd1,hd2⟩:=xCw code (p:=a) (seed:=s) (N:=N) (by omega) hT ⟨hn1,hn2⟩ (by omega);rw[e,bnd_s];simp only;rw[kI (by omega) (by omega),bnd_s,hn,e3,bnd_s];exact⟨_,_,_,rfl,hr,by first | omega | (simp only;omega),by first | omega | (simp only;omega)⟩
theorem xKs (code:List UInt8) {p seed:Int} {N:Nat} (h:0≤p∧p≤800000) (hN:100≤N):∃ z r a s,mO N code p seed=some (z,r,a,s)∧r.tuples.length≤400∧p≤a∧a≤p+1000:=by
  unfold mO
  obtain⟨T,a,s,e,hT,ha1,ha2⟩:=xAb code (seed:=seed) (p:=p) (by omega);obtain⟨r,b,s',e',hr,hb1,hb2⟩:=xUg code (p:=a) (seed:=s) (N:=N) (by omega) hT hN;obtain⟨v,c,s2,e2,hv,hc1,hc2⟩:=cT code (seed:=s') 24 (at':=b) (by omega) (by decide);obtain⟨hra,hrl,hrt⟩:=hr;rw[e,bnd_s];simp only;rw[e',bnd_s];simp only;rw[e2,bnd_s];simp only
  split
  · obtain⟨v3,a3,s3,e3,_,h1,h2⟩:=nG code (seed:=s2) [0,5,-1,1] (p:=c) (by omega) (by decide)
    rw[e3,bnd_s];exact⟨_,_,_,_,rfl,by first | omega | (simp only;omega),by first | omega | (simp only;omega),by first | omega | (simp only;omega)⟩
  · split
    · rw[kI (by omega) (by omega),bnd_s]
      obtain⟨v3,a3,s3,e3,_,h1,h2⟩:=nG code (seed:=s2) [0,5,r.arity+1] (p:=c) (by omega) (by simp);rw[e3,bnd_s];exact⟨_,_,_,_,rfl,by first | omega | (simp only;omega),by first | omega | (simp only;omega),by first | omega | (simp only;omega)⟩
    · split
      · rw[bS (by simp only[List.length_cons,List.length_nil];omega),bnd_s]
        exact⟨_,_,_,_,rfl,by simp only[List.length_append,List.length_singleton];omega,by first | omega | (simp only;omega),by first | omega | (simp only;omega)⟩
      · split
        · split
          · rename_i hpos
            have hpos':0<r.tuples.length:=by simpa using hpos
            have h0:=hrt _ (List.getElem_mem hpos');obtain⟨v3,a3,s3,e3,_,h1,h2⟩:=nG code (seed:=s2) [-1,(T:Int)] (p:=c) (by omega) (by simp);rw[dX (by omega) (List.getElem?_eq_getElem hpos'),bnd_s,e3,bnd_s,dX (by omega) (List.getElem?_eq_getElem (show(0:Int).toNat<(r.tuples[0]).length by simp;omega)),bnd_s];exact⟨_,_,_,_,rfl,by simp only[List.length_set];omega,by first | omega | (simp only;omega),by first | omega | (simp only;omega)⟩
          · exact⟨_,_,_,_,rfl,by first | omega | (simp only;omega),by first | omega | (simp only;omega),by first | omega | (simp only;omega)⟩
        · exact⟨_,_,_,_,rfl,by first | omega | (simp only;omega),by first | omega | (simp only;omega),by first | omega | (simp only;omega)⟩
theorem RB.small {r:Rel} (h:RB r):r.tuples.length≤400:=by have:=h.2.1;omega
theorem xIe (code:List UInt8) {p seed:Int} {N:Nat} (h:0≤p∧p≤700000) (hN:100≤N):∃ t a s,dP N code p seed=some (t,a,s)∧(∀ r∈t.rels,r.tuples.length≤400)∧p≤a∧a≤p+6000:=by
  unfold dP
  obtain⟨T,a,s,e,hT,ha1,ha2⟩:=xAb code (seed:=seed) (p:=p) (by omega);obtain⟨t,b,s',e',ht,hl,hr,hb1,hb2⟩:=yW code (p:=a) (seed:=s) (N:=N) (by omega) hT hN;obtain⟨v,c,s2,e2,hv,hc1,hc2⟩:=cT code (seed:=s') 20 (at':=b) (by omega) (by decide);have hsm:∀ r∈t.rels,r.tuples.length≤400:=fun r hrr=>(hr r hrr).small;rw[e,bnd_s];simp only;rw[e',bnd_s];simp only;rw[e2,bnd_s];simp only
  split
  · obtain⟨v3,a3,s3,e3,_,h1,h2⟩:=nG code (seed:=s2) [0,5,1] (p:=c) (by omega) (by decide)
    rw[e3,bnd_s];exact⟨_,_,_,rfl,hsm,by first | omega | (simp only;omega),by first | omega | (simp only;omega)⟩
  · split
    · obtain⟨z,r,a3,s3,e3,h0,h1,h2⟩:=xKs code (seed:=s2) (p:=c) (N:=N) (by omega) hN
      rw[e3,bnd_s];simp only;rw[bS (by simp only[List.length_cons,List.length_nil];omega),bnd_s];refine⟨_,_,_,rfl,fun q hq=>?_,by first | omega | (simp only;omega),by first | omega | (simp only;omega)⟩
      rcases List.mem_append.1 hq with hq | hq
      · exact hsm q hq
      · rw[List.mem_singleton.1 hq];exact h0
    · split
      · obtain⟨⟨a1,s1,t1⟩,e1,i1⟩:=xHo (ρ:=Template×Int×Int) (f:=fun(s:Int×Int×(List Rel))=>
       match s with
       | (s162,s164,s165)=>
       xY (oR code s162 s164 2) fun z181=>
       xY (ck (6+z181.1)) fun z189=>
       if (decide ((s165.length:Int)<z189)) then
        xY (ap s165 ([(Rel.mk 1 ([]))])) fun z211=>
        some (.go (z181.2.1,z181.2.2,z211))
       else
        some (.brk (z181.2.1,z181.2.2,s165))) (fun s=>c≤s.1∧s.1+((8 - s.2.2.length:Nat):Int)≤c+8∧∀ r∈s.2.2,r.tuples.length≤400) (fun s=>c≤s.1∧s.1≤c+10∧∀ r∈s.2.2,r.tuples.length≤400) (fun s=>8 - s.2.2.length) (fun st hI=>by
          obtain⟨a0,s0,t0⟩:=st;obtain⟨h1,h2,h3⟩:=hI;simp only at h1 h2 h3;obtain⟨v5,a5,s5,e5,hv5,hb5,hb6⟩:=cT code (seed:=s0) 2 (at':=a0) (by omega) (by omega)
          by_cases hlt:(t0.length:Int)<6+v5
          · left
            refine⟨(a5,s5,t0++[Rel.mk 1 []]),?_,⟨by first | omega | (simp only;omega),by simp only[List.length_append,List.length_singleton];omega,fun q hq=>?_⟩,by simp only[List.length_append,List.length_singleton];omega⟩
            · simp only
              rw[e5,bnd_s];simp only;rw[kI (by omega) (by omega),bnd_s,if_pos (by simpa using hlt),bS (by simp only[List.length_cons,List.length_nil];omega),bnd_s]
            · rcases List.mem_append.1 hq with hq | hq
              · exact h3 q hq
              · rw[List.mem_singleton.1 hq];simp
          · right
            refine⟨(a5,s5,t0),?_,by first | omega | (simp only;omega),by first | omega | (simp only;omega),h3⟩;simp only;rw[e5,bnd_s];simp only
            rw[kI (by omega) (by omega),bnd_s,if_neg (by simpa using hlt)]) N (c,s2,t.rels) (by first | omega | (simp only;omega)) ⟨by first | omega | (simp only;omega),by first | omega | (simp only;omega),hsm⟩
        rw[e1,thn_nx];obtain⟨h1,h2,h3⟩:=i1;simp only at h1 h2 h3;exact⟨_,_,_,rfl,h3,by first | omega | (simp only;omega),by first | omega | (simp only;omega)⟩
      · exact⟨_,_,_,rfl,hsm,by first | omega | (simp only;omega),by first | omega | (simp only;omega)⟩
theorem xIp (code:List UInt8) {p seed:Int} {N:Nat} (h:0≤p∧p≤600000) (hN:100≤N):∃ t x a s,lX N code p seed=some (t,x,a,s)∧(∀ r∈t.rels,r.tuples.length≤400)∧(x.vars≤5∨x.vars=11)∧p≤a∧a≤p+20000:=by
  unfold lX
  obtain⟨v0,a,s,e,hv0,ha1,ha2⟩:=nG code (seed:=seed) [2,2,3,3,4] (p:=p) (by omega) (by decide);obtain⟨T,hT,hT1⟩:∃ T:Nat,v0=T∧1≤T∧T≤4:=⟨v0.toNat,by simp at hv0;omega,by simp at hv0;omega,by simp at hv0;omega⟩;subst hT;obtain⟨t,b,s',e',ht,hl,hr,hb1,hb2⟩:=yW code (p:=a) (seed:=s) (N:=N) (by omega) hT1 hN;obtain⟨x,b2,s'',e'',hx1,hx2,hb3,hb4⟩:=xGy code (p:=b) (seed:=s') (N:=N) (by omega) hl hr hN;obtain⟨v,c,s2,e2,hv,hc1,hc2⟩:=cT code (seed:=s'') 24 (at':=b2) (by omega) (by decide);have hsm:∀ r∈t.rels,r.tuples.length≤400:=fun r hrr=>(hr r hrr).small;rw[e,bnd_s];simp only;rw[e',bnd_s];simp only;rw[show(Template.mk t.size t.rels)=t from rfl,e'',bnd_s];simp only;rw[e2,bnd_s];simp only
  split
  · obtain⟨t3,a3,s3,e3,h0,h1,h2⟩:=xIe code (seed:=s2) (p:=c) (N:=N) (by omega) hN
    rw[e3,bnd_s];exact⟨_,_,_,_,rfl,h0,.inl hx1.2,by first | omega | (simp only;omega),by first | omega | (simp only;omega)⟩
  · split
    · obtain⟨v3,a3,s3,e3,hm,h1,h2⟩:=nG code (seed:=s2) [0,11,1] (p:=c) (by omega) (by decide)
      rw[e3,bnd_s];exact⟨_,_,_,_,rfl,hsm,by simp at hm;simp only;omega,by first | omega | (simp only;omega),by first | omega | (simp only;omega)⟩
    · split
      · obtain⟨v3,a3,s3,e3,hv3,h1,h2⟩:=cT code (seed:=s2) 5 (at':=c) (by omega) (by decide)
        obtain⟨v4,a4,s4,e4,hv4,h3,h4⟩:=cT code (seed:=s3) 6 (at':=a3) (by omega) (by decide);rw[e3,bnd_s];simp only;rw[kI (by omega) (by omega),bnd_s,e4,bnd_s];simp only;rw[bS (by simp only[List.length_cons,List.length_nil];omega),bnd_s];exact⟨_,_,_,_,rfl,hsm,.inl hx1.2,by first | omega | (simp only;omega),by first | omega | (simp only;omega)⟩
      · split
        · obtain⟨⟨a1,s1,t1⟩,e1,i1⟩:=xHo (ρ:=Template×Instance×Int×Int) (f:=fun(s:Int×Int×(List Con))=>
        match s with
        | (s625,s627,s628)=>
        kY (σ:=Bool×Int×Int) (
         xY (oR code s625 s627 2) fun z715=>
         xY (ck (24+z715.1)) fun z723=>
         if (decide ((s628.length:Int)<z723)) then  some (.nx ((decide (0<(s628.length:Int))),z715.2.1,z715.2.2)) else  some (.nx (false,z715.2.1,z715.2.2))) fun(s710,s711,s713)=>
        if s710 then
         xY (ix s628 0) fun z779=>
         xY (ap s628 ([z779])) fun z787=>
         some (.go (s711,s713,z787))
        else
         some (.brk (s711,s713,s628))) (fun s=>c≤s.1∧s.1+((26 - s.2.2.length:Nat):Int)≤c+26) (fun s=>c≤s.1∧s.1≤c+30) (fun s=>26 - s.2.2.length) (fun st hI=>by
            obtain⟨a0,s0,t0⟩:=st;obtain⟨h1,h2⟩:=hI;simp only at h1 h2;obtain⟨v5,a5,s5,e5,hv5,hb5,hb6⟩:=cT code (seed:=s0) 2 (at':=a0) (by omega) (by omega)
            have hcond:(xY (oR code a0 s0 2) fun z715=>
         xY (ck (24+z715.1)) fun z723=>
         if (decide ((t0.length : Int) < z723)) then  some (Out.nx (σ := Bool × Int × Int) (ρ := Ctl (Int × Int × (List Con)) (Template × Instance × Int × Int)) ((decide (0 < (t0.length : Int))), z715.2.1, z715.2.2)) else  some (.nx (false, z715.2.1, z715.2.2))) = some (.nx (decide ((t0.length : Int) < 24 + v5) && decide (0 < (t0.length : Int)), a5, s5)) := by
              rw[e5,bnd_s];simp only;rw[kI (by omega) (by omega),bnd_s]
              cases decide ((t0.length:Int)<24+v5)<;>rfl
            by_cases hlt:(t0.length:Int)<24+v5∧0<(t0.length:Int)
            · left
              have hp:0<t0.length:=by omega
              refine⟨(a5,s5,t0++[t0[0]]),?_,⟨by first | omega | (simp only;omega),by simp only[List.length_append,List.length_singleton];omega⟩,by simp only[List.length_append,List.length_singleton];omega⟩;simp only;rw[hcond,thn_nx];simp only;rw[if_pos (by rw[Bool.and_eq_true,decide_eq_true_eq,decide_eq_true_eq];exact hlt),dX (by omega) (List.getElem?_eq_getElem hp),bnd_s,bS (by simp only[List.length_cons,List.length_nil];omega),bnd_s]
            · right
              refine⟨(a5,s5,t0),?_,by first | omega | (simp only;omega),by first | omega | (simp only;omega)⟩;simp only;rw[hcond,thn_nx];simp only
              rw[if_neg (by rw[Bool.and_eq_true,decide_eq_true_eq,decide_eq_true_eq];exact hlt)]) N (c,s2,x.cons) (by first | omega | (simp only;omega)) ⟨by first | omega | (simp only;omega),by first | omega | (simp only;omega)⟩
          rw[e1,thn_nx];obtain⟨h1,h2⟩:=i1;simp only at h1 h2;exact⟨_,_,_,_,rfl,hsm,.inl hx1.2,by first | omega | (simp only;omega),by first | omega | (simp only;omega)⟩
        · exact⟨_,_,_,_,rfl,hsm,.inl hx1.2,by first | omega | (simp only;omega),by first | omega | (simp only;omega)⟩
theorem xRx (code:List UInt8) {N:Nat} (hN:100≤N):∃ t x a s,lW N code 0 0=some (t,x,a,s)∧(∀ r∈t.rels,r.tuples.length≤400)∧(x.vars≤5∨x.vars=11):=by
  unfold lW
  obtain⟨b0,a,s,e,ha1,ha2⟩:=xKc code (seed:=0) 4 (p:=0) (by omega) (by decide);rw[e,bnd_s];simp only
  cases b0 with
  | true=>
    rw[if_pos rfl];obtain⟨t,x,a3,s3,e3,h0,h1,h2,h3⟩:=xIp code (p:=a) (seed:=s) (N:=N) (by omega) hN;rw[e3,bnd_s];exact⟨_,_,_,_,rfl,h0,h1⟩
  | false=>
    rw[if_neg (by simp)];obtain⟨v,b,s2,e2,hv,hb1,hb2⟩:=cT code (seed:=s) 2 (at':=a) (by omega) (by decide);obtain⟨T,hT,hT1⟩:∃ T:Nat,2+v=T∧2≤T∧T≤3:=⟨(2+v).toNat,by omega,by omega,by omega⟩;obtain⟨m,hm,hm9⟩:∃ m:Nat,(T:Int)*T=(m:Int)∧m≤9:=⟨T*T,(Int.natCast_mul T T).symm,Nat.mul_le_mul hT1.2 hT1.2⟩;rw[e2,bnd_s];simp only;rw[kI (by omega) (by omega),bnd_s,hT,hm,kI (by omega) (by omega),bnd_s]
    obtain⟨rows,e3,hrows⟩:=xCq (ρ:=Template×Instance×Int×Int) (f:=fun(k141:Nat) (s135:(List (List Int)))=>
    xY (dv (k141:Int) (T:Int)) fun z147=>
    xY (rm (k141:Int) (T:Int)) fun z149=>
    if (z147 != z149) then
     xY (ap s135 ([[z147,z149]])) fun z156=>
     some (.go z156)
    else
     some (.go s135)) (fun k s=>s.length≤k) (m:Int).toNat 0 [] (by simp) (fun j st _ hj hI=>by
      have hd:dv (j:Int) (T:Int)=some ((j:Int).tdiv T):=by
        unfold dv
        rw[if_neg (by omega)];have:(j:Int).tdiv T=((j / T:Nat):Int):=rfl;have hle:j / T≤j:=Nat.div_le_self _ _;rw[this];have h0:(0:Int)≤((j / T:Nat):Int):=Int.natCast_nonneg _
        have h1:((j / T:Nat):Int)≤(j:Int):=by exact_mod_cast hle
        generalize ((j / T:Nat):Int)=q at h0 h1;exact kI (by omega) (by omega)
      have hr:rm (j:Int) (T:Int)=some ((j:Int).tmod T):=by
        unfold rm
        rw[if_neg (by omega)]
      rw[hd,bnd_s,hr,bnd_s]
      split
      · rw[bS (by simp only[List.length_cons,List.length_nil];omega),bnd_s]
        exact⟨_,rfl,by rw[List.length_append,List.length_singleton];omega⟩
      · exact⟨_,rfl,by omega⟩)
    rw[e3,thn_nx,bS (by simp),bnd_s];obtain⟨b1,c,s3,e4,hc1,hc2⟩:=xKc code (seed:=s2) 2 (p:=b) (by omega) (by decide);rw[e4,bnd_s];simp only
    have hrel:∃ a5 s5 rl,(if b1=true then
    xY (dO N code c s3 (T:Int) 2) fun z271=>
    xY (ap ([]++[Rel.mk 2 rows]) ([(Rel.mk z271.1.arity z271.1.tuples)])) fun z284=>
    some (Out.nx (σ:=Int×Int×(List Rel)) (ρ:=Template×Instance×Int×Int) (z271.2.1,z271.2.2,z284))
   else
    some (.nx (c,s3,[]++[Rel.mk 2 rows])))=some (.nx (a5,s5,rl))∧c≤a5∧a5≤c+600∧(1≤rl.length∧rl.length≤2)∧∀ r∈rl,r.tuples.length≤400:=by
      have hr0:rows.length≤400:=by omega
      cases b1 with
      | true=>
        rw[if_pos rfl];obtain⟨r,a6,s6,e6,hr,hd1,hd2⟩:=xCw code (p:=c) (seed:=s3) (T:=T) (n:=2) (N:=N) (by omega) (by omega) (by omega) (by omega);rw[show((2:Nat):Int)=2 from rfl] at e6;rw[e6,bnd_s];simp only;rw[bS (by simp),bnd_s];refine⟨_,_,_,rfl,by omega,by omega,by simp,fun q hq=>?_⟩;simp only[List.nil_append,List.mem_append,List.mem_singleton] at hq
        rcases hq with rfl | rfl
        · exact hr0
        · exact hr.small
      | false=>
        rw[if_neg (by simp)];refine⟨_,_,_,rfl,by omega,by omega,by simp,fun q hq=>?_⟩;simp only[List.nil_append,List.mem_singleton] at hq;rw[hq];exact hr0
    obtain⟨a5,s5,rl,e5,hp1,hp2,hrl,hrs⟩:=hrel;rw[e5,thn_nx];simp only;obtain⟨v7,a7,s7,e7,hv7,h71,h72⟩:=cT code (seed:=s5) 2 (at':=a5) (by omega) (by decide);obtain⟨v8,a8,s8,e8,hv8,h81,h82⟩:=cT code (seed:=s7) 7 (at':=a7) (by omega) (by decide);rw[e7,bnd_s];simp only;rw[kI (by omega) (by omega),bnd_s,e8,bnd_s];simp only;rw[kI (by omega) (by omega),bnd_s]
    obtain⟨⟨c1,a1,s1,t1⟩,e1,i1⟩:=xCn (ρ:=Template×Instance×Int×Int) (f:=fun(s:Int×Int×Int×(List Con))=>
     match s with
     | (s661,s663,s665,s666)=>
     if (decide (0<s661)) then
      xY (oR code s663 s665 (3+v7)) fun z684=>
      xY (ck (z684.1+1)) fun z692=>
      xY (ck (3+v7 - 1)) fun z694=>
      xY (oR code z684.2.1 z684.2.2 z694) fun z696=>
      xY (ck (z692+z696.1)) fun z704=>
      xY (rm z704 (3+v7)) fun z706=>
      xY (oR code z696.2.1 z696.2.2 (rl.length:Int)) fun z724=>
      xY (ap s666 ([(Con.mk z724.1 ([z684.1,z706]))])) fun z737=>
      xY (ck (s661 - 1)) fun z827=>
      some (.go (z827,z724.2.1,z724.2.2,z737))
     else
      some (.brk (s661,s663,s665,s666))) (fun c s=>s.1=(c:Int)∧0≤s.2.1∧s.2.1+3*c≤5000∧s.2.2.2.length+c≤10) (fun c st hI=>by
      obtain⟨c0,a0,s0,t0⟩:=st;obtain⟨h1,h2,h3,h4⟩:=hI;simp only at h1 h2 h3 h4;subst h1;obtain⟨w1,p1,q1,f1,hw1,g1,g2⟩:=cT code (seed:=s0) (3+v7) (at':=a0) (by omega) (by omega);obtain⟨w2,p2,q2,f2,hw2,g3,g4⟩:=cT code (seed:=q1) (3+v7 - 1) (at':=p1) (by omega) (by omega);obtain⟨w3,f3,hw3⟩:=xLy (x:=w1+1+w2) (n:=3+v7) (by omega) (by omega);obtain⟨w4,p4,q4,f4,hw4,g5,g6⟩:=cT code (seed:=q2) (rl.length:Int) (at':=p2) (by omega) (by omega);refine⟨(((c:Nat):Int),p4,q4,t0++[Con.mk w4 [w1,w3]]),?_,rfl,by first | omega | (simp only;omega),by first | omega | (simp only;omega),by simp only[List.length_append,List.length_singleton];omega⟩;simp only;rw[if_pos (by simp<;>omega),f1,bnd_s];simp only;rw[kI (by omega) (by omega),bnd_s,kI (by omega) (by omega),bnd_s,f2,bnd_s];simp only;rw[kI (by omega) (by omega),bnd_s,f3,bnd_s,f4,bnd_s];simp only;rw[bS (by simp only[List.length_cons,List.length_nil];omega),bnd_s,kI (by omega) (by omega),bnd_s]
      simp) (fun st hI=>by
      obtain⟨c0,a0,s0,t0⟩:=st;obtain⟨h1,_⟩:=hI;simp only at h1;subst h1
      rfl) (3+v8).toNat N (3+v8,a8,s8,[]) (by omega) ⟨by first | omega | (simp only;omega),by first | omega | (simp only;omega),by first | omega | (simp only;omega),by simp only[List.length_nil];omega⟩
    rw[e1,thn_nx];exact⟨_,_,_,_,rfl,hrs,.inl (by first | omega | (simp only;omega))⟩
theorem xSr:∃ r,nF 2=some r∧r.tuples.length≤400∧wL ⟨2,[r]⟩ ⟨2,[⟨0,[0,1]⟩]⟩=true:=⟨⟨2,[[0,0],[1,1]]⟩,by kernel_rfl,by decide,by decide +kernel⟩
theorem xNu (code:List UInt8) {N:Nat} (hN:100≤N):∃ z,nK N code=some z∧Ri z.1 z.2:=by
  obtain⟨t,x,a,s,e,h0,h1⟩:=xRx code hN
  have hsm:xAv t:=fun r hr=>by have:=h0 r hr;omega
  obtain⟨i1,i2⟩:=xHz (t:=t) (x:=x) hsm
  unfold nK jF
  rw[bnd_s];simp only;rw[e,bnd_s];simp only;rw[show(Template.mk t.size t.rels)=t from rfl,show(Instance.mk x.vars x.cons)=x from rfl,i1,bnd_s]
  cases hv:wL t x with
  | true=>
    rw[if_neg (by simp)];refine⟨(t,x),rfl,hsm,hv,?_⟩;have:=(xCk hv).1
    show x.vars≤5
    omega
  | false=>
    rw[if_pos (by rfl)];obtain⟨r,r1,r2,r3⟩:=xSr;rw[r1,bnd_s];exact⟨_,rfl,(fun q hq=>by rw[List.mem_singleton.1 hq];show r.tuples.length≤1048576;omega),r3,(by show(2:Int)≤5;decide)⟩
end Go.Proofs.YtfmnjkpddljdcaaGreatDoor
namespace Go.Proofs.YtfmnjkpddljdcaaGreatDoor
set_option linter.unusedVariables false
set_option linter.unusedSimpArgs false
set_option maxRecDepth 100000
open Go.Lib
theorem uR {α ρ:Type} {f:Nat→α→Unit→Option (Ctl Unit ρ)}:∀ (l:List α) (k:Nat),(∀ j x,l[j]?=some x→f (k+j) x ()=some (.go ()))→qW f l k ()=some (.nx ())
  | [],k,_=>rfl
  | x::l,k,h=>by
    rw[aJ (by have:=h 0 x rfl;rwa [Nat.add_zero] at this)];exact uR l (k+1) (fun j y hj=>by rw[Nat.add_assoc,Nat.add_comm 1 j];exact h (j+1) y hj)
theorem xGo (l:List Int):gC l l=some true:=by
  unfold gC
  rw[xDx,bnd_s,decide_eq_true rfl]
theorem xEj (l:List (List Int)):iT l l=some true:=by
  unfold iT
  rw[if_neg (by simp)];refine iU (s:=()) (uR l 0 (fun j x hj=>?_)) rfl;rw[Nat.zero_add];simp only;rw[xUa hj,bnd_s,xDx,bnd_s,decide_eq_true rfl]
  rfl
theorem xJy (l:List Int):bJ l l=some true:=by
  unfold bJ
  rw[if_neg (by simp)];refine iU (s:=()) (uR l 0 (fun j x hj=>?_)) rfl;rw[Nat.zero_add];simp only;rw[xUa hj,bnd_s,if_neg (by simp)]
section
variable {x:Template} {y:Instance}
theorem xRe (h:Ri x y) {d:List Int} (hd:∀ a∈d,0≤a∧a<x.size) (hp:d.Pairwise (· < ·)) (hl:d.length≤100000):eH d x=some false:=by
  have hs:=h.size
  unfold eH
  refine iU (s:=false) ?_ rfl
  have hall:(d.all fun a=>decide (0≤a) && decide (a≤x.size - 1))=true:=List.all_eq_true.2 (fun a ha=>by
    have:=hd a ha;rw[decide_eq_true (by omega),decide_eq_true (by omega)]
    rfl)
  rw[xBj x.size d _ (by omega),bnd_s,decide_eq_true rfl,hall,if_neg (by simp),xGb hl hp (fun _=>Iff.rfl),bnd_s,xJy,bnd_s]
  rfl
theorem xNb (h:Ri x y) {l:l08Level} (hl:LvOk x y l):fO x y l.domains=some true:=by
  have hv:=h.vars;have hlen:=hl.ok.len
  unfold fO
  refine iU (s:=false) ?_ ?_
  · rw[show(Template.mk x.size x.rels)=x from rfl,show(Instance.mk y.vars y.cons)=y from rfl,h.inst.2,bnd_s,if_neg (by simp)]
    have:((l.domains.length:Int) != y.vars)=false:=by simp;omega
    rw[this]
  · rw[if_neg (by simp),show(Template.mk x.size x.rels)=x from rfl,tB l.domains (fun _=>false) _ (fun d hd=>?_),bnd_s]
    · simp
    · obtain⟨i,hi,rfl⟩:=List.getElem_of_mem hd
      refine xRe h (fun a ha=>hl.rg i a (by rw[List.getD_eq_getElem?_getD,List.getElem?_eq_getElem hi];exact ha)) (hl.up _ hd) ?_
      have h1:=yQ (l.domains[i]) (nL 0 x.size.toNat) (hl.ok.nd _ hd) (fun a ha=>by
        have:=hl.rg i a (by rw[List.getD_eq_getElem?_getD,List.getElem?_eq_getElem hi];exact ha)
        rw[tY];omega)
      have h2:=h.size;rw[yO] at h1
      omega
theorem xUt (h:Ri x y) {D D':List (List Int)} {seg:List Line} (hr:Rn x y D seg D'):∀ l∈seg,l.kind=2→0≤l.con∧l.con<(y.cons.length:Int):=by
  induction hr with
  | nil=>exact fun l hl=>nomatch hl
  | @rem D D1 l s _ hs ih=>
    intro z hz hk
    rcases List.mem_append.1 hz with hz | hz
    · exact ih z hz hk
    · rw[List.mem_singleton.1 hz]
      obtain⟨_,_,c0,c,p,hc,_⟩:=hs;have:=(List.getElem?_eq_some_iff.1 hc).1;exact⟨c0,by simp only;omega⟩
  | @pair D D1 D2 l s v a i q _ hv hq ha h2q _ hi hd ih1 ih2=>
    intro z hz hk
    rcases List.mem_append.1 hz with hz | hz
    · exact ih1 z hz hk
    · rcases List.mem_append.1 hz with hz | hz
      · rw[List.mem_singleton.1 hz] at hk;exact absurd hk (by simp)
      · rcases List.mem_append.1 hz with hz | hz
        · exact ih2 z hz hk
        · rw[List.mem_singleton.1 hz] at hk;exact absurd hk (by simp)
theorem xPf {L:List Line} {z:Int}:z∈nl L↔∃ l∈L,l.kind=2∧l.con=z:=by
  unfold nl
  simp only[List.mem_map,List.mem_filter,beq_iff_eq];exact⟨fun⟨l,⟨h1,h2⟩,h3⟩=>⟨l,h1,h2,h3⟩,fun⟨l,h1,h2,h3⟩=>⟨l,⟨h1,h2⟩,h3⟩⟩
theorem xUj (L:List Line):(nl L).length≤L.length:=by
  unfold nl
  rw[List.length_map];exact List.length_filter_le _ _
theorem xSs (h:Ri x y) {N:Nat} (hN:100≤N) {A:List Line} (hr:Runs x y (S0 x y) A []) (hA:A.length≤4000):∃ F,dE N x y A=some (F,0)∧dF N x y A=some (F,0)∧F.Pairwise (· < ·)∧∀ z,z∈F↔z∈nl A:=by
  obtain⟨o,e1,e2,e3⟩:=xAh A 0 [] (by simp;omega) List.Pairwise.nil
  have e3:∀ z,z∈o↔z∈nl A:=fun z=>by rw[e3];simp
  have hlen:=xUj A;refine⟨o,?_,?_,e2,e3⟩
  · unfold dE
    rw[show(Template.mk x.size x.rels)=x from rfl,show(Instance.mk y.vars y.cons)=y from rfl,xJu h hN hr hA,bnd_s,if_neg (by simp)];refine iU (xAr A 0 [] (by simp;omega)) ?_;rw[List.nil_append,xGb (by omega) e2 e3,bnd_s]
  · unfold dF
    rw[show(Template.mk x.size x.rels)=x from rfl,show(Instance.mk y.vars y.cons)=y from rfl,xKb h hN hr hA,bnd_s,if_neg (by simp)];exact iU e1 rfl
theorem xPi (h:Ri x y) {N:Nat} (hN:5100≤N) {seg:List Line} {i:Int} {d2:List (List Int)} (hr:Rn x y (dV x y) seg d2) (hd:d2[i.toNat]?=some []) {F:List Int} (hF:F.Pairwise (· < ·)) (hm:∀ z,z∈F↔z∈nl (seg++[Line.mk 3 i 0 0])) :
    bB x y F=some (⟨y.vars,wF y F⟩,0)∧∃ o,dL N x ⟨y.vars,wF y F⟩=some (o,6):=by
  have hcon:=xUt h hr;have hc:=h.cons
  have hin:∀ a∈F,0≤a∧a<(y.cons.length:Int):=fun a ha=>by
    obtain⟨l,hl,hk,rfl⟩:=xPf.1 ((hm a).1 ha)
    rcases List.mem_append.1 hl with hl | hl
    · exact hcon l hl hk
    · rw[List.mem_singleton.1 hl] at hk;exact absurd hk (by simp)
  have hll:F.length≤24:=by
    have h1:=yQ F (nL 0 y.cons.length) (hF.imp (fun h=>by omega)) (fun a ha=>by
      have:=hin a ha
      rw[tY];omega)
    rw[yO] at h1
    omega
  have hpm:∀ c∈wF y F,c∈y.cons:=fun c hcc=>by
    obtain⟨k,hk,rfl⟩:=List.mem_map.1 hcc;have:=hin k hk;rw[List.getD_eq_getElem?_getD,List.getElem?_eq_getElem (by omega)];exact List.getElem_mem _
  have hri:Ri x ⟨y.vars,wF y F⟩:=h.some hpm (by unfold wF;rw[List.length_map];exact hll);refine⟨xBa h hin hF hll,?_⟩;obtain⟨o,c,e,hh⟩:=xNs hri hN
  rcases hh with ⟨_,vs,s1,s2,s3⟩ | ⟨rfl,_⟩
  · exfalso
    refine xIq h hr hd s1 s2 (fun l hl hk c hcc=>s3 c ?_);have hz:l.con∈F:=(hm _).2 (xPf.2 ⟨l,List.mem_append_left _ hl,hk,rfl⟩);refine List.mem_map.2 ⟨l.con,hz,?_⟩;rw[List.getD_eq_getElem?_getD,hcc]
    rfl
  · exact⟨o,e⟩
theorem Stp.bare {S T:List l08Level} {l:Line} (h:Stp x y S l T) (hk:l.kind≠2):Stp x ⟨y.vars,[]⟩ S l T:=by
  cases h with
  | rem=>exact absurd rfl hk
  | cho h1 h2 h3 h4=>exact .cho h1 h2 h3 h4
  | emp h1 h2 h3 h4=>exact .emp h1 h2 h3 h4
  | fin h1 h2=>exact .fin h1 h2
theorem Runs.bare {S T:List l08Level} {ls:List Line} (h:Runs x y S ls T):(∀ l∈ls,l.kind≠2)→Runs x ⟨y.vars,[]⟩ S ls T:=by
  induction h with
  | nil=>intro _;exact .nil
  | cons hs _ ih=>exact fun hk=>.cons (hs.bare (hk _ (by simp))) (ih (fun l hl=>hk l (by simp [hl])))
theorem xFq:∀ (L:List Line),(∃ l∈L,l.kind=2)→∃ A l B,L=A++l::B∧(∀ z∈A,z.kind≠2)∧l.kind=2
  | [],h=>by obtain⟨l,hl,_⟩:=h;cases hl
  | a::L,h=>by
    by_cases ha:a.kind=2
    · exact⟨[],a,L,rfl,(fun z hz=>nomatch hz),ha⟩
    · obtain⟨l,hl,hk⟩:=h
      rcases List.mem_cons.1 hl with rfl | hl
      · exact absurd hk ha
      · obtain⟨A,b,B,rfl,h1,h2⟩:=xFq L ⟨l,hl,hk⟩
        exact⟨a::A,b,B,rfl,(fun z hz=>by
          rcases List.mem_cons.1 hz with rfl | hz
          · exact ha
          · exact h1 z hz),h2⟩
theorem xTr {D:List (List Int)} {s:ArcStep} (hv:1≤y.vars∧y.vars≤10):cS x ⟨y.vars,[]⟩ D s=some false:=by
  unfold cS
  refine iU (s:=true) ?_ rfl
  dsimp only
  rw[kI (by omega) (by omega),bnd_s,sD,bnd_s]
  split
  · rfl
  · rw[kI (by simp) (by simp),bnd_s,sD,bnd_s]
    have:(decide (0≤s.con) && decide (s.con≤(([]:List Con).length:Int) - 1))=false:=by
      simp
      omega
    rw[this]
    rfl
theorem xNx {N:Nat} (hv:1≤y.vars∧y.vars≤10) {A:List (List (List Int))} {C:List Literal} {l:Line} (hA:0<A.length∧A.length≤100000) (hk:l.kind=2):zP N x.size x.rels y.vars [] A C l=some (false,A,C):=by
  unfold zP
  refine cO (kI (by omega) (by omega)) ?_
  cases hw:(decide (0≤l.var) && decide (l.var≤y.vars - 1)) with
  | false=>
    refine iU (s:=true) ?_ rfl;rw[if_neg (by simp;omega),kI (by omega) (by omega),bnd_s,sD,hw,bnd_s]
    rfl
  | true=>
    refine iU (s:=false) ?_ ?_
    · rw[if_neg (by simp;omega),kI (by omega) (by omega),bnd_s,sD,hw,bnd_s]
      rfl
    · rw[if_neg (by simp),dX (by omega) (List.getElem?_eq_getElem (by omega)),bnd_s,hk,if_neg (by decide),if_pos (by decide),xTr hv,bnd_s]
      rfl
theorem xJt (h:Ri x y) {N:Nat} (hN:100≤N) {L:List Line} (hr:Runs x y (S0 x y) L []) (hL:L.length≤4000) (h2:∃ l∈L,l.kind=2):∃ k,zO N x ⟨y.vars,[]⟩ L=some (k,8):=by
  have hv:=h.vars;obtain⟨A,l,B,rfl,hA,hk⟩:=xFq L h2;have hri:Ri x ⟨y.vars,[]⟩:=h.some (cs:=[]) (fun c hc=>nomatch hc) (by simp);obtain⟨T,r1,r2⟩:=hr.split
  have hl:A.length+(B.length+1)≤4000:=by simpa using hL
  have hT:0<T.length:=by
    cases r2 with
    | cons hs _=>exact List.length_pos_iff.2 hs.ne
  have hb:Runs x ⟨y.vars,[]⟩ (S0 x ⟨y.vars,[]⟩) A T:=r1.bare hA
  have hT2:T.length≤100000:=by
    have key:∀ {S U:List l08Level} {ls:List Line},Runs x y S ls U→U.length≤S.length+ls.length:=fun hr=>by
      induction hr with
      | nil=>simp
      | cons hs _ ih=>have:=hs.len;rw[List.length_cons];omega
    have:=key r1;simp only[S0,List.length_singleton] at this
    omega
  have d1:cN x ⟨y.vars,[]⟩=some (dV x y):=xAz hri.tv hv;have h1:=hb.impl hri hN (l::B) 0 (yJ hri) (by simp [S0];omega)
  have h3:qW (yB N x ⟨y.vars,[]⟩) (A++l::B) 0 ([dV x y],[Literal.mk 0 0])=some (.ret ((0,[],0,[],[],[]),(A.length:Int),8)):=by
    show qW (yB N x ⟨y.vars,[]⟩) (A++l::B) 0 ((S0 x ⟨y.vars,[]⟩).map l08Level.domains,(S0 x ⟨y.vars,[]⟩).map l08Level.chosen)=_
    rw[h1];refine jL ?_
    unfold yB
    simp only[xNx (x:=x) (y:=y) (N:=N) hv (C:=T.map l08Level.chosen) (show 0<(T.map l08Level.domains).length∧(T.map l08Level.domains).length≤100000 by rw[List.length_map];exact⟨hT,hT2⟩) hk,bnd_s,Bool.not_false,if_true,Nat.zero_add]
  have h4:cW N x ⟨y.vars,[]⟩ (A++l::B)=some ((0,[],0,[],[],[]),(A.length:Int),8):=by
    unfold cW fH
    rw[show(Template.mk x.size x.rels)=x from rfl,hri.inst.2,bnd_s,if_neg (by simp),if_neg (by simp;omega),d1,bnd_s,bnd_s]
    show kY (qW (yB N x ⟨y.vars,[]⟩) (A++l::B) 0 ([dV x y],[Literal.mk 0 0])) _=_
    rw[h3,thn_ret]
  refine⟨(A.length:Int),?_⟩
  unfold zO
  rw[show(Template.mk x.size x.rels)=x from rfl,h4,bnd_s]
  rfl
end
theorem xTa (x:Int):IntKind.i64.wrap (Go.bits .and .u64 (IntKind.u64.wrap x / 2 ^ (40:Int).toNat) 255)≤255:=by
  obtain⟨n,h1,h2⟩:=xTl x;rw[h2,show((n:Int) / 2 ^ (40:Int).toNat)=((n / 1099511627776:Nat):Int) by simp,show(255:Int)=((255:Nat):Int) from rfl,bits_and_u64_nat _ _ (by omega) (by decide)];have h3:(n / 1099511627776) &&& 255≤255:=Nat.and_le_right;rw[IntWalk.i64_in _ ⟨by omega,by omega⟩]
  omega
theorem xMd (code:List UInt8) {at' seed:Int} (h:0≤at'∧at'≤1000000):∃ v s,cM code at' seed=some (v,at'+1,s)∧0≤v∧v≤255:=by
  unfold cM
  have hb:∃ b:Int,(0≤b∧b≤255)∧(if (decide (at'<(code.length:Int)))=true then xY (ix code at') fun z23=>some (Out.nx (σ:=Int) (ρ:=Int×Int×Int) (z23.toNat:Int)) else some (.nx 0))=some (.nx b):=by
    by_cases hl:at'<(code.length:Int)
    · refine⟨(code[at'.toNat]'(by omega)).toNat,⟨by omega,?_⟩,?_⟩
      · have:=(code[at'.toNat]'(by omega)).toNat_lt;omega
      · rw[if_pos (by simpa using hl),dX h.1 (List.getElem?_eq_getElem (by omega)),bnd_s]
    · exact⟨0,by omega,by rw[if_neg (by simpa using hl)]⟩
  obtain⟨b,h0,e⟩:=hb;rw[e,thn_nx,kI (by omega) (by omega),bnd_s,xLv h0.1,bnd_s]
  split
  · exact⟨_,_,rfl,h0⟩
  · exact⟨_,_,rfl,xMf _,xTa _⟩
theorem xWg (code:List UInt8) {n:Int} (hn:1≤n):∃ v,nI code n=some v∧0≤v∧v<n:=by
  unfold nI jF
  rw[bnd_s]
  have hp:∃ v a s,oR code 0 0 n=some (v,a,s)∧0≤v∧v<n:=by
    unfold oR
    by_cases h1:n≤1
    · rw[if_pos (by simpa using h1)]
      exact⟨0,0,0,rfl,by omega,by omega⟩
    · rw[if_neg (by simpa using h1)]
      obtain⟨u,s,e,u0,u1⟩:=xMd code (at':=0) (seed:=0) (by decide);rw[e,bnd_s]
      by_cases h2:200<n
      · obtain⟨w,s2,e2,w0,w1⟩:=xMd code (at':=1) (seed:=s) (by decide)
        obtain⟨v,e3,h3⟩:=xLy (show 0≤u*256+w by omega) (show 1<n by omega);rw[if_pos (by simpa using h2)];exact⟨v,_,_,cO (kI (by simp only;omega) (by simp only;omega)) (cO e2 (cO (kI (by simp only;omega) (by simp only;omega)) (cO e3 rfl))),h3⟩
      · obtain⟨v,e3,h3⟩:=xLy u0 (show 1<n by omega)
        rw[if_neg (by simpa using h2)];exact⟨v,_,_,cO e3 rfl,h3⟩
  obtain⟨v,a,s,e,h⟩:=hp;exact⟨v,cO e rfl,h⟩
end Go.Proofs.YtfmnjkpddljdcaaGreatDoor
namespace Go.Proofs.YtfmnjkpddljdcaaGreatDoor
set_option linter.unusedVariables false
set_option linter.unusedSimpArgs false
set_option maxRecDepth 100000
theorem law_FnRefuted {N:Nat} (hN:5100≤N) (x y:List UInt8):laws_FnRefuted N x y=some true:=by
  unfold laws_FnRefuted laws_f6big
  refine iU (s:=(decide (4096<(x.length:Int)) || decide (4096<(y.length:Int)))) (by rw[bnd_s,bnd_s];cases decide (4096<(x.length:Int))<;>rfl) ?_
  by_cases hbig:(decide (4096<(x.length:Int)) || decide (4096<(y.length:Int)))=true
  · rw[if_pos hbig]
  rw[if_neg hbig];obtain⟨⟨t,i⟩,e,h⟩:=xNu x (N:=N) (by omega);refine cO e ?_
  change Ri t i at h
  have h100:100≤N:=by omega
  obtain⟨L,rc,e1,hc⟩:=xHr h hN;refine cO e1 ?_
  rcases hc with rfl | ⟨rfl,hno,hL,seg,iv,d2,hr,hiv,hd,rfl⟩
  · rfl
  rw[if_neg (by simp)];obtain⟨L,hLe⟩:∃ L,L=seg++[Line.mk 3 iv 0 0]:=⟨_,rfl⟩
  have hruns:Runs t i (S0 t i) L []:=by rw[hLe];exact xMv hr hiv hd
  have hpos:1≤L.length:=by rw[hLe];simp
  have h2k:∃ l∈L,l.kind=2:=by
    obtain⟨l,hl,hk⟩:=xJw h hr hd;exact⟨l,by rw[hLe];exact List.mem_append_left _ hl,hk⟩
  obtain⟨F,c1,c2,c3,c4⟩:=xSs h h100 hruns (by rw[hLe];omega);rw[hLe] at c4;obtain⟨p1,o,p2⟩:=xPi h hN hr hd c3 c4;have hlines:∀ l∈L,eP l=true:=(hruns.spec h h100 [] 0 (yJ h) (by rw[hLe];simp [S0];simp at hL;omega)).2;rw[← hLe] at hL ⊢;obtain⟨b,q1⟩:=xJt h h100 hruns (by omega) h2k;obtain⟨k,k1,k2,k3⟩:=xWg y (n:=(L.length:Int)) (by omega);obtain⟨n,rfl⟩:∃ n:Nat,k=(n:Int):=⟨k.toNat,by omega⟩
  have hn:n<L.length:=by omega
  obtain⟨T,l,r1⟩:=xOb hruns hn
  have hlen:(L.take n).length=n:=by rw[List.length_take];omega
  have hT:T.length≤100000:=by
    have key:∀ {S U:List l08Level} {ls:List Line},Runs t i S ls U→U.length≤S.length+ls.length:=fun hr=>by
      induction hr with
      | nil=>simp
      | cons hs _ ih=>have:=hs.len;rw[List.length_cons];omega
    have:=key r1;simp only[S0,List.length_singleton,List.length_append,hlen] at this
    omega
  have r2:Runs t i (T++[l]) (L.drop n) []:=by
    have hh:=hruns;rw[← List.take_append_drop n L] at hh;obtain⟨U,u1,u2⟩:=hh.split
    have hdet:U=T++[l]:=by
      have key:=(u1.spec h h100 [] 0 (yJ h) (by rw[hlen];simp [S0];omega)).1;rw[(r1.spec h h100 [] 0 (yJ h) (by rw[hlen];simp [S0];omega)).1] at key
      simpa [qW] using key.symm
    rw[← hdet];exact u2
  obtain⟨m,m1,m2⟩:=xKi r1 r2 (by rw[List.take_append_drop];omega);rw[List.take_append_drop] at m1
  have hA:(L.take n).length≤4000:=by omega
  have kk:=xKq h h100 r1 hA;rw[hlen] at kk
  have sl1:sl L 0 (n:Int)=some (L.take n):=by
    unfold sl
    rw[if_pos ⟨by omega,by omega,by omega⟩]
    simp
  have hfull:=xRb h h100 hruns (by omega);have hlong:=xKm h h100 hruns (by omega);refine cO k1 (cO sl1 (cO kk (cO (xPj h h100 r1 hA hT) (cO (xQk h h100 r1 hA hT) (cO m1 ?_)))));refine iU (s:=false) ?_ ?_
  · dsimp only
    rw[if_neg (by simp),if_neg (by simp),if_neg (by simp),if_neg (by simp),xEj,bnd_s,if_neg (by simp),if_neg (by simp),if_neg (by simp),if_neg (by simp;omega),xNb h ((r1.ok (yJ h)) l (by simp)),bnd_s]
    rfl
  rw[if_neg (by simp)];refine cO hfull (cO (bS (by simp only[List.length_nil];omega)) (cO (bS (by simp only[List.length_append,List.length_cons,List.length_nil];omega)) (cO (hlong _) ?_)));refine iU (s:=false) (by dsimp only;rw[if_neg (by simp),if_neg (by simp)];simp) ?_;rw[if_neg (by simp)];refine cO c1 (cO c2 (cO p1 (cO p2 ?_)));refine iU (s:=false) ?_ ?_
  · dsimp only
    rw[if_neg (by simp),xGo,bnd_s,if_neg (by simp),if_neg (by simp)]
    rfl
  rw[if_neg (by simp)];refine iU (s:=()) (uR L 0 (fun j z hj=>?_)) ?_
  · obtain⟨l1,l2,l3⟩:=xKj (hlines z (List.mem_of_getElem? hj))
    refine cO l1 (cO l2 ?_);refine iU (s:=false) ?_ rfl
    dsimp only
    rw[if_neg (by simp),if_neg (by simp),l3,bnd_s]
    rfl
  refine cO (xBa h (L:=[]) (fun a ha=>nomatch ha) List.Pairwise.nil (by simp)) (cO q1 ?_);refine iU (s:=true) ?_ rfl
  rfl
end Go.Proofs.YtfmnjkpddljdcaaGreatDoor
