import Derived.Test.YtfmnjkpddljdcaaGreatDoorMT
import Derived.Test.YtfmnjkpddljdcaaGreatDoorM1
import Derived.Laws.Strings
import Derived.Lib.SplitLaws
namespace Go.Proofs.YtfmnjkpddljdcaaGreatDoor
set_option linter.unusedVariables false
set_option linter.unusedSimpArgs false
theorem rV (l:List UInt8):(kL l).size=l.length:=by simp [kL,ByteArray.size]
theorem xRh (a b:List UInt8):kL a++kL b=kL (a++b):=by
  apply ByteArray.ext
  simp [kL]
theorem xAn {a b:List UInt8} (h:a.length+b.length≤9223372036854775807):xJn (kL a) (kL b)=some (kL (a++b)):=by
  unfold xJn
  rw[rV,rV,if_pos h,xRh]
theorem xJs (n:Nat) (h:n≤9223372036854775807):(Lib.decDigits n).length≤21:=by
  have:=Lib.itoa_length_le (n:Int) (by omega) (by omega)
  rwa [Lib.itoa_nonneg] at this
def jU (n:Int):List UInt8:=Lib.decDigits n.toNat
theorem sI {n:Int} (h:n≤9223372036854775807):(jU n).length≤21:=xJs _ (by omega)
theorem xHh {n:Int} (h0:0≤n):pX n=some (kL (jU n)):=by
  unfold pX fN
  rw[if_pos rfl,bnd_s]
  have:Lib.itoa n=jU n:=by
    unfold Lib.itoa jU
    rw[if_neg (by omega)]
  rw[this]
  rfl
theorem xQu (a:ByteArray):sEq a a=true:=by simp [sEq]
theorem sD (a b c:Int):bA a b c=some (decide (b≤a) && decide (a≤c)):=by
  unfold bA
  by_cases h:b≤a<;>simp [h]
theorem in_b (a b c:Int):bE a b c=some (decide (b≤a) && decide (a≤c)):=by
  unfold bE
  by_cases h:b≤a<;>simp [h]
theorem xCp (l:List Int) (p:Int→Bool) (f:Int→Option Bool) (hf:∀ x∈l,f x=some (p x)):vQ l f=some (l.any p):=by
  obtain⟨i,h1,h2⟩:=rS l p f hf;have h3:zK l f=some i:=h1
  unfold vQ
  rw[h3,bnd_s,h2]
theorem xPp {α:Type} (l:List α) (p:α→Bool):(l.any fun a=>!p a) = !(l.all p):=by rw[List.all_eq_not_any_not,Bool.not_not]
theorem xBj (T:Int) (l:List Int) (n:Int) (hT:1≤T∧T≤1000000):aK T l n=some (decide ((l.length:Int)=n) && l.all fun x=>decide (0≤x) && decide (x≤T - 1)):=by
  unfold aK
  have h:∀ x:Int,dH x T=some (!(decide (0≤x) && decide (x≤T - 1))):=fun x=>by
    unfold dH fP
    rw[kI (by omega) (by omega),bnd_s,sD,bnd_s,bnd_s]
  by_cases hl:(l.length:Int)=n
  · rw[if_pos (by simpa using hl),xCp l (fun x=>!(decide (0≤x) && decide (x≤T - 1))) _ (fun x _=>h x),bnd_s,thn_nx,xPp,Bool.not_not]
    simp [hl]
  · rw[if_neg (by simpa using hl),thn_nx]
    simp [hl]
theorem xDq (a b:List UInt8):sEq (kL a) (kL b)=(a==b):=by
  unfold sEq
  rw[ByteArray.toList_eq,ByteArray.toList_eq]
  rfl
end Go.Proofs.YtfmnjkpddljdcaaGreatDoor
namespace Go.Proofs.YtfmnjkpddljdcaaGreatDoor
set_option linter.unusedVariables false
set_option linter.unusedSimpArgs false
theorem xBh:∀ (l:List Int) (k:Nat) (s:List ByteArray),(∀ n∈l,0≤n)→s.length+l.length≤1048576→qW (σ:=(List ByteArray)) (ρ:=ByteArray) (fun(k58:Nat) (x60:Int) (s48:(List ByteArray))=>
   xY (pX x60) fun z69=>
   xY (ap s48 ([z69])) fun z79=>
   some (.go z79)) l k s=some (.nx (s++l.map fun n=>kL (jU n)))
  | [],_,s,_,_=>by simp
  | n::l,k,s,h0,hl=>by
    rw[List.length_cons] at hl;rw[aJ (s':=s++[kL (jU n)]) (by rw[xHh (h0 n (by simp)),bnd_s,bS (by simp only[List.length_cons,List.length_nil];omega),bnd_s]),xBh l (k+1) _ (fun m hm=>h0 m (by simp [hm])) (by simp only[List.length_append,List.length_singleton];omega)]
    simp
theorem xNg (l:List Int) (h0:∀ n∈l,0≤n) (h1:∀ n∈l,n≤9223372036854775807) (hl:l.length≤1048576):lP l=some (kL (Lib.join (l.map jU) [32])):=by
  unfold lP
  rw[xBh l 0 [] h0 (by simpa using hl),thn_nx,List.nil_append]
  have e:xDu (l.map fun n=>kL (jU n)) (kL [32])=Lib.join (l.map jU) [32]:=by
    unfold xDu
    rw[List.map_map]
    rfl
  have hs:(Lib.join (l.map jU) [32]).length≤22*l.length:=by
    cases l with
    | nil=>simp [Lib.join_nil]
    | cons a l=>
      rw[List.map_cons,Lib.join_length]
      have:∀ l:List Int,(∀ n∈l,n≤9223372036854775807)→Lib.lens (l.map jU)≤21*l.length:=by
        intro l
        induction l with
        | nil=>intro _;simp [Lib.lens]
        | cons b l ih=>
          intro h;have h2:=ih (fun n hn=>h n (by simp [hn]));have h3:=sI (h b (by simp));simp only[Lib.lens,List.map_cons,List.sum_cons,List.length_cons] at h2 ⊢
          omega
      have h4:=this (a::l) h1;simp only[List.length_cons,List.length_nil,List.length_map,List.map_cons] at h4 ⊢
      omega
  unfold mH
  rw[e,if_pos ⟨by rw[List.length_map];omega,by omega⟩,bnd_s]
  rfl
def in9 (n:Int):Bool:=decide (0≤n) && decide (n≤999)
def eP (x:Line):Bool:=(x.kind==1 || x.kind==2 || x.kind==3) && in9 x.var && in9 x.value && in9 x.con && (x.kind==2 || x.con==0) && (x.kind != 3 || x.value==0)
theorem yN (x:Line):fC x=some (eP x):=by
  unfold fC
  rw[sD,bnd_s,xBj _ _ _ (by decide)]
  by_cases hk:x.kind=1∨x.kind=2∨x.kind=3
  · have hw:(decide (1≤x.kind) && decide (x.kind≤3))=true:=by simp;omega
    rw[hw,if_neg (by simp),bnd_s,thn_nx]
    by_cases ha:(in9 x.var && in9 x.value && in9 x.con)=true
    · have ha':(decide ((([x.var,x.value,x.con]:List Int).length:Int)=3) && ([x.var,x.value,x.con].all fun y=>decide (0≤y) && decide (y≤1000 - 1)))=true:=by
        simp only[in9,Bool.and_eq_true] at ha;simp only[List.all_cons,List.all_nil,Bool.and_eq_true,Bool.and_true];exact⟨rfl,ha.1.1,ha.1.2,ha.2⟩
      rw[ha',if_neg (by simp)];simp only[Bool.and_eq_true] at ha
      unfold kV eP
      rw[ha.1.1,ha.1.2,ha.2];have hc:∀ l:List Int,vQ l (fun a0=>jI a0)=some (l.any fun y=>y != 0):=fun l=>xCp l _ _ (fun y _=>rfl)
      rcases hk with hk | hk | hk
      · simp only[hk,kI (show -9223372036854775808≤(1:Int) - 1 by decide) (by decide),bnd_s,ix,sl,hc]
        simp [bne,xY,hc]
      · simp only[hk,kI (show -9223372036854775808≤(2:Int) - 1 by decide) (by decide),bnd_s,ix,sl,hc]
        simp [bne,xY,hc]
      · simp only[hk,kI (show -9223372036854775808≤(3:Int) - 1 by decide) (by decide),bnd_s,ix,sl,hc]
        simp [bne,xY,hc]
        exact Bool.and_comm _ _
    · have ha':(decide ((([x.var,x.value,x.con]:List Int).length:Int)=3) && ([x.var,x.value,x.con].all fun y=>decide (0≤y) && decide (y≤1000 - 1)))=false:=by
        rw[Bool.not_eq_true] at ha;rw[Bool.and_eq_false_iff]
        right
        simp only[in9] at ha;simp only[List.all_cons,List.all_nil,Bool.and_true];rw[← Bool.and_assoc];exact ha
      rw[ha',if_pos (by simp)]
      unfold eP
      rw[Bool.not_eq_true] at ha
      have:((x.kind==1 || x.kind==2 || x.kind==3) && in9 x.var && in9 x.value && in9 x.con)=false:=by
        rw[Bool.and_assoc,Bool.and_assoc,← Bool.and_assoc (in9 x.var),ha,Bool.and_false]
      rw[this]
      simp
  · have hw:(decide (1≤x.kind) && decide (x.kind≤3))=false:=by simp;omega
    rw[hw,if_pos (by simp),thn_nx,if_pos rfl]
    unfold eP
    have:(x.kind==1 || x.kind==2 || x.kind==3)=false:=by simp;omega
    rw[this]
    simp
theorem xKg (x:Line):mI x=some (eP x):=by
  unfold mI jZ
  have h3:(3:Int).toNat=3:=rfl;have e0:ix [x.var,x.value,x.con] ((0:Nat):Int)=some x.var:=rfl;have e1:ix [x.var,x.value,x.con] ((1:Nat):Int)=some x.value:=rfl;have e2:ix [x.var,x.value,x.con] ((2:Nat):Int)=some x.con:=rfl;have hin:∀ y:Int,bE y 0 999=some (in9 y):=fun y=>in_b y 0 999
  have st:∀ (c:Int),kY (σ:=Unit) (eJ (σ:=Unit) (ρ:=Bool) (fun(k76:Nat) (s:Unit)=>
    match s with
    | _=>
    kY (σ:=Bool) (
     xY (ix [x.var,x.value,x.con] (k76:Int)) fun z104=>
     xY (bE z104 0 999) fun z112=>
     if (!z112) then  some (.nx true) else  if (decide (c≤(k76:Int))) then  some (.nx (z104 != 0)) else  some (.nx false)) fun s103=>
    if s103 then
     some (.ret false)
    else
     some (.go ())) 3 0 ()) (fun _=>some (decide (0<c)))=some (in9 x.var && (!decide (c≤0) || x.var==0) && in9 x.value && (!decide (c≤1) || x.value==0) && in9 x.con && (!decide (c≤2) || x.con==0) && decide (0<c)):=by
    intro c;simp only[eJ,e0,e1,e2,bnd_s,hin,Nat.zero_add]
    cases hv:in9 x.var
    · rfl
    · cases ha:in9 x.value
      · by_cases c0:c≤0<;>by_cases v0:x.var=0<;>simp [c0,v0,kY]
      · cases hb:in9 x.con
        · by_cases c0:c≤0<;>by_cases v0:x.var=0<;>by_cases c1:c≤1<;>by_cases v1:x.value=0<;>simp [c0,v0,c1,v1,kY]
        · by_cases c0:c≤0<;>by_cases v0:x.var=0<;>by_cases c1:c≤1<;>by_cases v1:x.value=0<;>by_cases c2:c≤2<;>by_cases v2:x.con=0<;>simp [c0,v0,c1,v1,c2,v2,kY]<;>omega
  by_cases h1:x.kind=1
  · have hw:eS x.kind=some (kL [99,104,111,111,115,101],2):=by rw[h1];rfl
    rw[hw,bnd_s,bnd_s,h3,st 2]
    unfold eP
    rw[h1]
    simp [Bool.and_assoc]
  by_cases h2:x.kind=2
  · have hw:eS x.kind=some (kL [114,101,109,111,118,101],3):=by rw[h2];rfl
    rw[hw,bnd_s,bnd_s,h3,st 3]
    unfold eP
    rw[h2]
    simp [Bool.and_assoc]
  by_cases h4:x.kind=3
  · have hw:eS x.kind=some (kL [101,109,112,116,121],1):=by rw[h4];rfl
    rw[hw,bnd_s,bnd_s,h3,st 1]
    unfold eP
    rw[h4];generalize (x.value==0)=p;generalize (x.con==0)=q
    cases in9 x.var<;>cases in9 x.value<;>cases in9 x.con<;>cases p<;>cases q<;>simp
  · have hw:eS x.kind=some (kL [],0):=by
      unfold eS
      rw[if_neg (by simpa using h1),if_neg (by simpa using h2),if_neg (by simpa using h4)]
    rw[hw,bnd_s,bnd_s,h3,st 0]
    unfold eP
    have:(x.kind==1 || x.kind==2 || x.kind==3)=false:=by simp [h1,h2,h4]
    rw[this]
    simp
theorem mA {n:Int} (h:in9 n=true):0≤n∧n≤999:=by
  unfold in9 at h
  simp only[Bool.and_eq_true,decide_eq_true_eq] at h;exact h
theorem wX {x:Line} (h:eP x=true):(x.kind=1∨x.kind=2∨x.kind=3)∧in9 x.var=true∧in9 x.value=true∧in9 x.con=true:=by
  unfold eP at h
  simp only[Bool.and_eq_true,Bool.or_eq_true,beq_iff_eq] at h;obtain⟨⟨⟨⟨⟨h1,h2⟩,h3⟩,h4⟩,_⟩,_⟩:=h;exact⟨by omega,h2,h3,h4⟩
def jV (x:Line):List UInt8:=
  if x.kind=1 then [99,104,111,111,115,101]++32::jU x.var++32::jU x.value
  else if x.kind=2 then [114,101,109,111,118,101]++32::jU x.var++32::jU x.value++32::jU x.con
  else [101,109,112,116,121]++32::jU x.var
theorem wH (x:Line):eT x=some (kL (if eP x then jV x else [])):=by
  unfold eT
  rw[show(Line.mk x.kind x.var x.value x.con)=x from rfl,yN,bnd_s]
  cases h:eP x with
  | false=>rfl
  | true=>
    obtain⟨hk,h1,h2,h3⟩:=wX h;have g1:=mA h1;have g2:=mA h2;have g3:=mA h3;have n1:=sI (n:=x.var) (by omega);have n2:=sI (n:=x.value) (by omega);have n3:=sI (n:=x.con) (by omega);rw[if_neg (by simp),if_pos rfl]
    unfold gH
    have sp:∀ l:List Int,(∀ n∈l,0≤n∧n≤999)→l.length≤3→lP l=some (kL (Lib.join (l.map jU) [32])):=fun l h hl=>xNg l (fun n hn=>(h n hn).1) (fun n hn=>by have:=(h n hn).2;omega) (by omega)
    rcases hk with hk | hk | hk
    · have hm:kV x=some [x.var,x.value]:=by unfold kV;rw[hk];rfl
      rw[hk,kI (by decide) (by decide),bnd_s,bnd_s,hm,show ix [kL [99,104,111,111,115,101],kL [114,101,109,111,118,101],kL [101,109,112,116,121]] ((1:Int) - 1)=some (kL [99,104,111,111,115,101]) from rfl,bnd_s,xAn (by decide),bnd_s,bnd_s,
        sp _ (by simp only[List.forall_mem_cons,List.not_mem_nil,false_implies,implies_true,and_true];exact⟨g1,g2⟩) (by simp),bnd_s]
      have e:Lib.join ([x.var,x.value].map jU) [32]=jU x.var++32::jU x.value:=by
        simp [Lib.join_cons,Lib.joinTail]
      rw[e,xAn (by simp only[List.length_append,List.length_cons,List.length_nil];omega),bnd_s]
      unfold jV
      rw[if_pos hk]
      simp
    · have hm:kV x=some [x.var,x.value,x.con]:=by unfold kV;rw[hk];rfl
      rw[hk,kI (by decide) (by decide),bnd_s,bnd_s,hm,show ix [kL [99,104,111,111,115,101],kL [114,101,109,111,118,101],kL [101,109,112,116,121]] ((2:Int) - 1)=some (kL [114,101,109,111,118,101]) from rfl,bnd_s,xAn (by decide),bnd_s,bnd_s,
        sp _ (by simp only[List.forall_mem_cons,List.not_mem_nil,false_implies,implies_true,and_true];exact⟨g1,g2,g3⟩) (by simp),bnd_s]
      have e:Lib.join ([x.var,x.value,x.con].map jU) [32]=jU x.var++32::jU x.value++32::jU x.con:=by
        simp [Lib.join_cons,Lib.joinTail]
      rw[e,xAn (by simp only[List.length_append,List.length_cons,List.length_nil];omega),bnd_s]
      unfold jV
      rw[if_neg (by omega),if_pos hk]
      simp
    · have hm:kV x=some [x.var]:=by unfold kV;rw[hk];rfl
      rw[hk,kI (by decide) (by decide),bnd_s,bnd_s,hm,show ix [kL [99,104,111,111,115,101],kL [114,101,109,111,118,101],kL [101,109,112,116,121]] ((3:Int) - 1)=some (kL [101,109,112,116,121]) from rfl,bnd_s,xAn (by decide),bnd_s,bnd_s,
        sp _ (by simp only[List.forall_mem_cons,List.not_mem_nil,false_implies,implies_true,and_true];exact g1) (by simp),bnd_s]
      have e:Lib.join ([x.var].map jU) [32]=jU x.var:=by
        simp [Lib.join_cons,Lib.joinTail]
      rw[e,xAn (by simp only[List.length_append,List.length_cons,List.length_nil];omega),bnd_s]
      unfold jV
      rw[if_neg (by omega),if_neg (by omega)]
      simp
end Go.Proofs.YtfmnjkpddljdcaaGreatDoor
namespace Go.Proofs.YtfmnjkpddljdcaaGreatDoor
set_option linter.unusedVariables false
set_option linter.unusedSimpArgs false
def eY (c:UInt8):List UInt8→List (List UInt8)
  | []=>[[]]
  | b::l=>if b=c then []::eY c l else match eY c l with | []=>[[b]] | x::r=>(b::x)::r
theorem xDr (c:UInt8):∀ l,eY c l≠[]
  | []=>by simp [eY]
  | b::l=>by
    unfold eY
    split
    · simp
    · split<;>simp
theorem xFs (c:UInt8):∀ l:List UInt8,Lib.splitK [c] 0 (l.count c) l=eY c l
  | []=>rfl
  | b::l=>by
    have ih:=xFs c l
    by_cases h:b=c
    · subst h
      have hix:Lib.index (b::l) [b]=0:=by rw[Lib.index];simp [List.isPrefixOf]
      rw[List.count_cons_self,Lib.splitK,hix,eY,if_pos rfl,← ih]
      rfl
    · have hp:([c]:List UInt8).isPrefixOf (b::l)=false:=by simp [List.isPrefixOf,Ne.symm h]
      have hix:Lib.index (b::l) [c]=if Lib.index l [c] == -1 then -1 else Lib.index l [c]+1:=by rw[Lib.index,hp];simp
      rw[List.count_cons_of_ne (by simpa using h),eY,if_neg h,← ih]
      cases hk:l.count c with
      | zero=>rfl
      | succ k=>
        by_cases hm:Lib.index l [c]= -1
        · rw[Lib.splitK,Lib.splitK,hix]
          simp [hm]
        · have hge:=Lib.index_ge l [c]
          obtain⟨j,hj⟩:∃ j:Nat,Lib.index l [c]=j:=⟨(Lib.index l [c]).toNat,by omega⟩
          have h1:¬ (((j:Nat):Int) == -1)=true:=by simp
          have h2:¬ (((j:Nat):Int)+1 == -1)=true:=by simp;omega
          rw[Lib.splitK,Lib.splitK,hix,hj,if_neg h1,if_neg h2,if_neg h1]
          have h3:(((j:Nat):Int)+1).toNat=j+1:=by omega
          rw[h3]
          simp
theorem xFk (c:UInt8) (l:List UInt8):Lib.countB (kL l) (kL [c])=l.count c:=Lib.count_one c l
theorem xNe (c:UInt8) (l:List UInt8):Lib.splitB (kL [c]) 0 (Lib.countB (kL l) (kL [c])) (kL l)=(eY c l).map kL:=by
  have h:=Lib.splitB_data (kL [c]) 0 (Lib.countB (kL l) (kL [c])) (kL l);rw[xFk] at h ⊢;have e:Lib.splitK (kL [c]).data.toList 0 (l.count c) (kL l).data.toList=eY c l:=xFs c l;rw[e] at h;rw[← h,List.map_map]
  have:(kL ∘ fun x:ByteArray=>x.data.toList)=id:=by
    funext x
    apply ByteArray.ext
    simp [kL]
  rw[this,List.map_id]
theorem xRg {c:UInt8} {l:List UInt8} (h:l.length≤1048576):iK (kL l) (kL [c])=some ((eY c l).map kL):=by
  unfold iK
  have h1:(kL l).size=l.length:=rV l
  have h2:Lib.countB (kL l) (kL [c])≤l.length:=by rw[xFk];exact List.count_le_length
  rw[if_pos ⟨by omega,by rw[rV];exact Nat.le_refl 1,by omega⟩,xNe]
end Go.Proofs.YtfmnjkpddljdcaaGreatDoor
namespace Go.Proofs.YtfmnjkpddljdcaaGreatDoor
set_option linter.unusedVariables false
set_option linter.unusedSimpArgs false
def dig (c:UInt8):Bool:=decide (48≤c.toNat) && decide (c.toNat≤57)
def jQ (s:Nat) (l:List UInt8):Nat:=l.foldl (fun s c=>s*10+(c.toNat - 48)) s
theorem xGd (s:Nat) (l:List UInt8) (c:UInt8):jQ s (l++[c])=jQ s l*10+(c.toNat - 48):=by unfold jQ;rw[List.foldl_append];rfl
def uJ (l:List UInt8):Bool:=!l.isEmpty && l.all dig && (l.head? != some 48 || l.length==1)
theorem xQc:∀ l:List UInt8,l≠[]→l.all dig=true→l.head?≠some 48→1≤jQ 0 l:=by
  have mono:∀ (l:List UInt8) (s:Nat),1≤s→1≤jQ s l:=by
    intro l
    induction l with
    | nil=>intro s h;exact h
    | cons c l ih=>intro s h;exact ih (s*10+(c.toNat - 48)) (by omega)
  intro l h1 h2 h3
  cases l with
  | nil=>contradiction
  | cons c l=>
    have hd:dig c=true:=by simp only[List.all_cons,Bool.and_eq_true] at h2;exact h2.1
    unfold dig at hd
    simp only[Bool.and_eq_true,decide_eq_true_eq] at hd;have hc:c.toNat≠48:=fun e=>h3 (by rw[List.head?_cons];congr 1;exact UInt8.toNat_inj.1 (by rw[e];rfl));exact mono l (0*10+(c.toNat - 48)) (by omega)
theorem xIx {c:UInt8} (h:dig c=true):UInt8.ofNat (48+(c.toNat - 48))=c:=by
  unfold dig at h
  simp only[Bool.and_eq_true,decide_eq_true_eq] at h;rw[show 48+(c.toNat - 48)=c.toNat by omega];exact UInt8.ofNat_toNat
theorem xUi (n:Nat):∀ l:List UInt8,l.length=n→uJ l=true→Lib.decDigits (jQ 0 l)=l:=by
  induction n with
  | zero=>intro l hl h;rw[List.length_eq_zero_iff] at hl;subst hl;simp [uJ] at h
  | succ n ih=>
    intro l hl h
    have hne:l≠[]:=by intro e;subst e;simp at hl
    obtain⟨l',c,rfl⟩:∃ l' c,l=l'++[c]:=⟨l.dropLast,l.getLast hne,(List.dropLast_concat_getLast hne).symm⟩
    unfold uJ at h
    simp only[Bool.and_eq_true,List.all_append,List.all_cons,List.all_nil,Bool.and_true] at h;obtain⟨⟨_,h2,h3⟩,h4⟩:=h;rw[xGd];have hc:=h3
    unfold dig at hc
    simp only[Bool.and_eq_true,decide_eq_true_eq] at hc
    by_cases hl':l'=[]
    · subst hl'
      have:jQ 0 ([]:List UInt8)=0:=rfl;rw[this,Nat.zero_mul,Nat.zero_add,Lib.decDigits_one (by omega),xIx h3]
      rfl
    · have hh:l'.head?≠some 48:=by
        intro e
        have e2:(l'++[c]).head?=some 48:=by rw[List.head?_append,e];rfl
        have e3:2≤(l'++[c]).length:=by
          rw[List.length_append,List.length_singleton];have:=List.length_pos_iff.2 hl'
          omega
        rw[e2] at h4;simp only[bne_self_eq_false,Bool.false_or,beq_iff_eq] at h4
        omega
      have hp:=xQc l' hl' h2 hh
      have hi:uJ l'=true:=by
        unfold uJ
        rw[h2]
        have h5:l'.isEmpty=false:=by cases l' with | nil=>contradiction | cons _ _=>rfl
        have h6:(l'.head? != some 48)=true:=by simpa using hh
        rw[h5,h6]
        rfl
      rw[Lib.decDigits,dif_neg (by omega)]
      have e1:(jQ 0 l'*10+(c.toNat - 48)) / 10=jQ 0 l':=by omega
      have e2:(jQ 0 l'*10+(c.toNat - 48)) % 10=c.toNat - 48:=by omega
      rw[e1,e2,ih l' (by rw[List.length_append,List.length_singleton] at hl;omega) hi,xIx h3]
end Go.Proofs.YtfmnjkpddljdcaaGreatDoor
namespace Go.Proofs.YtfmnjkpddljdcaaGreatDoor
set_option linter.unusedVariables false
set_option linter.unusedSimpArgs false
theorem xOv (M:Nat) (hM:1000000000≤M):∀ (l:List UInt8) (acc k:Nat),l.all dig=true→acc<10 ^ k→k+l.length≤9→Lib.parseUintM M acc l= .ok (jQ acc l)
  | [],acc,k,_,_,_=>rfl
  | c::l,acc,k,h,ha,hk=>by
    simp only[List.all_cons,Bool.and_eq_true] at h;have hd:=h.1
    unfold dig at hd
    simp only[Bool.and_eq_true,decide_eq_true_eq] at hd;rw[List.length_cons] at hk;have h1:10 ^ (k+1)≤10 ^ 9:=Nat.pow_le_pow_right (by decide) (by omega);rw[Nat.pow_succ] at h1
    unfold Lib.parseUintM
    rw[if_pos hd,if_neg (by omega),if_neg (by omega),xOv M hM l _ (k+1) h.2 (by rw[Nat.pow_succ];omega) (by omega)]
    rfl
theorem xMl:∀ (l:List UInt8) (acc k:Nat),l.all dig=true→acc<10 ^ k→jQ acc l<10 ^ (k+l.length)
  | [],acc,k,_,ha=>ha
  | c::l,acc,k,h,ha=>by
    simp only[List.all_cons,Bool.and_eq_true] at h;have hd:=h.1
    unfold dig at hd
    simp only[Bool.and_eq_true,decide_eq_true_eq] at hd;have:=xMl l (acc*10+(c.toNat - 48)) (k+1) h.2 (by rw[Nat.pow_succ];omega);rw[List.length_cons,show k+(l.length+1)=k+1+l.length by omega];exact this
theorem xMu {l:List UInt8} (h:uJ l=true) (hl:l.length≤9):Lib.parseIntB 64 l= .ok ((jQ 0 l:Nat):Int):=by
  have h0:=h
  unfold uJ at h
  simp only[Bool.and_eq_true] at h;have hall:=h.1.2
  cases l with
  | nil=>simp at h
  | cons c r=>
    have hd:dig c=true:=by simp only[List.all_cons,Bool.and_eq_true] at hall;exact hall.1
    unfold dig at hd
    simp only[Bool.and_eq_true,decide_eq_true_eq] at hd;have hv:=xMl (c::r) 0 0 hall (by decide);have hp:10 ^ (0+(c::r).length)≤10 ^ 9:=Nat.pow_le_pow_right (by decide) (by omega);rw[Lib.parseIntB_plain 64 c r (by omega) (by omega)]
    unfold Lib.parseUintB
    rw[if_neg (by simp),xOv _ (by decide) (c::r) 0 0 hall (by decide) (by omega)]
    unfold Lib.signlessC
    simp only;rw[if_neg (by omega)]
theorem xRz (l:List UInt8):xS (Lib.intSat 64 l):=by
  unfold Lib.intSat
  split<;>decide
theorem xEf {l:List UInt8} (hl:l.length≤1048576):eV (kL l) 10 64=some (match Lib.parseIntB 64 l with | .ok v=>(v,true) | .range=>(Lib.intSat 64 l,false) | _=>(0,false)):=by
  unfold eV
  rw[if_pos ⟨rfl,rfl,by rw[rV];omega,xRz _⟩]
  rfl
theorem gF {l:List UInt8} (h:uJ l=true) (hl:l.length≤9):kB (kL l)=some ((jQ 0 l:Nat):Int):=by
  unfold kB
  rw[xEf (by omega),xMu h hl,bnd_s]
  have hn:jU ((jQ 0 l:Nat):Int)=l:=by
    unfold jU
    rw[Int.toNat_natCast];exact xUi l.length l rfl h
  have h0:¬ (((jQ 0 l:Nat):Int)<0):=by omega
  simp only[Bool.not_true,Bool.false_eq_true,if_false];rw[if_neg (fun h=>h0 (of_decide_eq_true h)),xHh (by omega),bnd_s,thn_nx,hn,xQu]
  rfl
theorem xBy {l:List UInt8} (hl:l.length≤1048576):∃ n,kB (kL l)=some n∧(0≤n→jU n=l):=by
  unfold kB
  rw[xEf hl,bnd_s]
  cases hp:Lib.parseIntB 64 l
  case range=>exact⟨-2,rfl,fun h=>absurd h (by decide)⟩
  case ok v=>
    simp only[Bool.not_true,Bool.false_eq_true,if_false]
    by_cases hv:v<0
    · rw[if_pos (decide_eq_true hv),thn_nx,if_pos rfl]
      exact⟨-2,rfl,fun h=>absurd h (by decide)⟩
    · rw[if_neg (by simpa using hv),xHh (by omega),bnd_s,thn_nx,xDq]
      by_cases hn:jU v=l
      · rw[hn,beq_self_eq_true,if_neg (by simp)]
        exact⟨v,rfl,fun _=>hn⟩
      · have:(jU v==l)=false:=by rw[beq_eq_false_iff_ne];exact hn
        rw[this,if_pos (by rfl)];exact⟨-2,rfl,fun h=>absurd h (by decide)⟩
  · exact⟨-2,rfl,fun h=>absurd h (by decide)⟩
theorem xJk (k:Nat) (h:k<10):dig (UInt8.ofNat (48+k))=true∧(UInt8.ofNat (48+k)).toNat=48+k:=by
  have:(UInt8.ofNat (48+k)).toNat=48+k:=by simp;omega
  refine⟨?_,this⟩
  unfold dig
  rw[this]
  simp
  omega
theorem xEe:∀ n:Nat,Lib.decDigits n≠[]∧(Lib.decDigits n).all dig=true∧(1≤n→(Lib.decDigits n).head?≠some 48)∧jQ 0 (Lib.decDigits n)=n∧(n<10→(Lib.decDigits n).length=1):=by
  intro n
  induction n using Nat.strongRecOn with
  | _ n ih=>
    by_cases h:n<10
    · rw[Lib.decDigits_one h]
      obtain⟨h1,h2⟩:=xJk n h;refine⟨by simp,by rw[List.all_cons,h1];rfl,fun hn e=>?_,?_,fun _=>rfl⟩
      · rw[List.head?_cons] at e
        have:=congrArg UInt8.toNat (Option.some.inj e);rw[h2] at this;have:(48:UInt8).toNat=48:=rfl
        omega
      · unfold jQ
        simp only[List.foldl_cons,List.foldl_nil,h2]
        omega
    · obtain⟨i1,i2,i3,i4,_⟩:=ih (n / 10) (by omega)
      obtain⟨h1,h2⟩:=xJk (n % 10) (by omega);rw[Lib.decDigits,dif_neg h];refine⟨by simp,by rw[List.all_append,i2,List.all_cons,h1];rfl,fun _=>?_,?_,fun hn=>absurd hn h⟩
      · rw[List.head?_append]
        cases hh:(Lib.decDigits (n / 10)).head? with
        | none=>rw[List.head?_eq_none_iff] at hh;contradiction
        | some c=>
          have:=i3 (by omega);rw[hh] at this
          simpa using this
      · rw[xGd,i4,h2]
        omega
theorem uQ {n:Int} (h:0≤n):uJ (jU n)=true∧((jQ 0 (jU n):Nat):Int)=n:=by
  obtain⟨h1,h2,h3,h4,h5⟩:=xEe n.toNat
  unfold jU
  refine⟨?_,by rw[h4];omega⟩
  unfold uJ
  have e1:(Lib.decDigits n.toNat).isEmpty=false:=by cases hd:Lib.decDigits n.toNat with | nil=>contradiction | cons _ _=>rfl
  rw[e1,h2]
  by_cases h0:1≤n.toNat
  · have:=h3 h0
    have e2:((Lib.decDigits n.toNat).head? != some 48)=true:=by simpa using this
    rw[e2]
    rfl
  · rw[h5 (by omega)]
    simp
theorem yG {n:Int} (h:0≤n) (h9:n≤999):(jU n).length≤9:=by
  unfold jU
  have:∀ m:Nat,m≤999→(Lib.decDigits m).length≤3:=by
    intro m hm
    by_cases h1:m<10
    · rw[Lib.decDigits_one h1,List.length_singleton];omega
    · rw[Lib.decDigits,dif_neg h1,List.length_append,List.length_singleton]
      by_cases h2:m / 10<10
      · rw[Lib.decDigits_one h2,List.length_singleton];omega
      · rw[Lib.decDigits,dif_neg h2,List.length_append,List.length_singleton,Lib.decDigits_one (by omega),List.length_singleton];omega
  have:=this n.toNat (by omega)
  omega
theorem fU (n:Int):∀ c∈jU n,c≠32:=by
  obtain⟨_,h2,_⟩:=xEe n.toNat;intro c hc e;have:=List.all_eq_true.1 h2 c hc;rw[e] at this;exact absurd this (by decide)
theorem sP {c:UInt8}:∀ {p:List UInt8},(∀ x∈p,x≠c)→eY c p=[p]
  | [],_=>rfl
  | b::p,h=>by
    rw[eY,if_neg (h b (by simp)),sP (fun x hx=>h x (by simp [hx]))]
theorem jH {c:UInt8}:∀ {p:List UInt8} (q:List UInt8),(∀ x∈p,x≠c)→eY c (p++c::q)=p::eY c q
  | [],q,_=>by rw[List.nil_append,eY,if_pos rfl]
  | b::p,q,h=>by
    rw[List.cons_append,eY,if_neg (h b (by simp)),jH q (fun x hx=>h x (by simp [hx]))]
def wW (c:UInt8):List (List UInt8)→List UInt8
  | []=>[]
  | [x]=>x
  | x::y::r=>x++c::wW c (y::r)
theorem xHy (c:UInt8):∀ l:List UInt8,wW c (eY c l)=l
  | []=>rfl
  | b::l=>by
    have ih:=xHy c l;have hne:=xDr c l
    by_cases h:b=c
    · rw[eY,if_pos h]
      cases hc:eY c l with
      | nil=>contradiction
      | cons x r=>rw[hc] at ih;rw[wW,ih,h];rfl
    · rw[eY,if_neg h]
      cases hc:eY c l with
      | nil=>contradiction
      | cons x r=>
        rw[hc] at ih
        cases r with
        | nil=>rw[wW] at ih ⊢;rw[ih]
        | cons y r=>rw[wW] at ih ⊢;rw[List.cons_append,ih]
end Go.Proofs.YtfmnjkpddljdcaaGreatDoor
namespace Go.Proofs.YtfmnjkpddljdcaaGreatDoor
set_option linter.unusedVariables false
set_option linter.unusedSimpArgs false
theorem xFp (c:UInt8):∀ l:List UInt8,∀ x∈eY c l,x.length≤l.length
  | [],x,hx=>by
    rw[eY,List.mem_singleton] at hx;rw[hx];exact Nat.le_refl _
  | b::l,x,hx=>by
    have ih:=xFp c l;rw[List.length_cons]
    by_cases h:b=c
    · rw[eY,if_pos h] at hx
      rcases List.mem_cons.1 hx with rfl | hx
      · exact Nat.zero_le _
      · have:=ih x hx;omega
    · rw[eY,if_neg h] at hx
      cases hc:eY c l with
      | nil=>exact absurd hc (xDr c l)
      | cons y r=>
        rw[hc] at hx ih
        rcases List.mem_cons.1 hx with rfl | hx
        · have:=ih y (by simp);rw[List.length_cons];omega
        · have:=ih x (by simp [hx]);omega
end Go.Proofs.YtfmnjkpddljdcaaGreatDoor
namespace Go.Proofs.YtfmnjkpddljdcaaGreatDoor
set_option linter.unusedVariables false
set_option linter.unusedSimpArgs false
def eN (w:List UInt8):Int:=if w=[99,104,111,111,115,101] then 1 else if w=[114,101,109,111,118,101] then 2 else if w=[101,109,112,116,121] then 3 else 0
def tT (k:Int):List UInt8:=if k=1 then [99,104,111,111,115,101] else if k=2 then [114,101,109,111,118,101] else [101,109,112,116,121]
theorem xDh {w:List UInt8} (h1:w≠[99,104,111,111,115,101]) (h2:w≠[114,101,109,111,118,101]) (h3:w≠[101,109,112,116,121]):eN w=0:=by
  unfold eN
  rw[if_neg h1,if_neg h2,if_neg h3]
theorem xBi (w:List UInt8):eN w=0∨(1≤eN w∧eN w≤3∧tT (eN w)=w):=by
  by_cases h1:w=[99,104,111,111,115,101]
  · subst h1;exact .inr (by decide)
  by_cases h2:w=[114,101,109,111,118,101]
  · subst h2;exact .inr (by decide)
  by_cases h3:w=[101,109,112,116,121]
  · subst h3;exact .inr (by decide)
  exact .inl (xDh h1 h2 h3)
theorem xDo:∀ k:Int,1≤k→k≤3→eN (tT k)=k∧∀ c∈tT k,c≠32:=by
  intro k h1 h2
  rcases(show k=1∨k=2∨k=3 by omega) with h | h | h<;>subst h<;>decide
theorem xIy (w:List UInt8):zY [kL [99,104,111,111,115,101],kL [114,101,109,111,118,101],kL [101,109,112,116,121]] (kL w)=some (eN w - 1):=by
  by_cases h1:w=[99,104,111,111,115,101]
  · subst h1;unfold zY;simp only[qW,xDq];rfl
  by_cases h2:w=[114,101,109,111,118,101]
  · subst h2;unfold zY;simp only[qW,xDq];rfl
  by_cases h3:w=[101,109,112,116,121]
  · subst h3;unfold zY;simp only[qW,xDq];rfl
  rw[xDh h1 h2 h3]
  unfold zY
  have e:∀ u:List UInt8,w≠u→(w==u)=false:=fun u h=>by rw[beq_eq_false_iff_ne];exact h
  simp only[qW,xDq,e _ h1,e _ h2,e _ h3,Bool.false_eq_true,if_false,thn_nx]
  rfl
def xDb:Line×Int:=(⟨0,0,0,0⟩,5)
def pA (x:List UInt8):Prop:=uJ x=true∧x.length≤9∧jQ 0 x≤999
instance (x:List UInt8):Decidable (pA x):=by unfold pA;infer_instance
def xKl (ws:List (List UInt8)):Line×Int:=
  match ws with
  | [w,x]=>if eN w=3∧pA x then (⟨3,(jQ 0 x:Nat),0,0⟩,0) else xDb
  | [w,x,y]=>if eN w=1∧pA x∧pA y then (⟨1,(jQ 0 x:Nat),(jQ 0 y:Nat),0⟩,0) else xDb
  | [w,x,y,z]=>if eN w=2∧pA x∧pA y∧pA z then (⟨2,(jQ 0 x:Nat),(jQ 0 y:Nat),(jQ 0 z:Nat)⟩,0) else xDb
  | _=>xDb
theorem xMn (w x:List UInt8):xKl [w,x]=if eN w=3∧pA x then (⟨3,(jQ 0 x:Nat),0,0⟩,0) else xDb:=rfl
theorem xLp (w x y:List UInt8):xKl [w,x,y]=if eN w=1∧pA x∧pA y then (⟨1,(jQ 0 x:Nat),(jQ 0 y:Nat),0⟩,0) else xDb:=rfl
theorem xLa (w x y z:List UInt8):xKl [w,x,y,z]=if eN w=2∧pA x∧pA y∧pA z then (⟨2,(jQ 0 x:Nat),(jQ 0 y:Nat),(jQ 0 z:Nat)⟩,0) else xDb:=rfl
theorem xWe {w:List UInt8} (r:List (List UInt8)) (h:eN w=0):xKl (w::r)=xDb:=by
  match r with
  | []=>rfl
  | [x]=>rw[xMn,if_neg (by omega)]
  | [x,y]=>rw[xLp,if_neg (by omega)]
  | [x,y,z]=>rw[xLa,if_neg (by omega)]
  | x::y::z::u::r=>rfl
theorem xKk {n:Int} (h:0≤n∧n≤999):in9 n=true:=by
  unfold in9
  simp only[Bool.and_eq_true,decide_eq_true_eq];exact h
theorem xBk {k a b c:Int} (h:eP ⟨k,a,b,c⟩=true):(1≤k∧k≤3)∧(0≤a∧a≤999)∧(0≤b∧b≤999)∧(0≤c∧c≤999)∧(k≠2→c=0)∧(k=3→b=0):=by
  obtain⟨h1,h2,h3,h4⟩:=wX h;have h1':k=1∨k=2∨k=3:=h1;refine⟨by omega,mA h2,mA h3,mA h4,fun hk=>?_,fun hk=>?_⟩
  · unfold eP at h
    simp only[Bool.and_eq_true,Bool.or_eq_true,beq_iff_eq,bne_iff_ne] at h;have:=h.1.2
    omega
  · unfold eP at h
    simp only[Bool.and_eq_true,Bool.or_eq_true,beq_iff_eq,bne_iff_ne] at h;have:=h.2
    omega
theorem pP {k a b c:Int} (h1:1≤k∧k≤3) (h2:0≤a∧a≤999) (h3:0≤b∧b≤999) (h4:0≤c∧c≤999) (h5:k≠2→c=0) (h6:k=3→b=0):eP ⟨k,a,b,c⟩=true:=by
  unfold eP
  simp only[Bool.and_eq_true,Bool.or_eq_true,beq_iff_eq,bne_iff_ne];exact⟨⟨⟨⟨⟨by omega,xKk h2⟩,xKk h3⟩,xKk h4⟩,by omega⟩,by omega⟩
theorem tS {k a b c:Int} (h:1≤k∧k≤3):jV ⟨k,a,b,c⟩=tT k++32::jU a++(if k≤2 then 32::jU b else [])++(if k=2 then 32::jU c else []):=by
  rcases(show k=1∨k=2∨k=3 by omega) with h | h | h<;>subst h<;>simp [jV,tT]
theorem xNr (x:Line):(jV x==([]:List UInt8))=false:=by
  unfold jV
  split
  · rfl
  · split<;>rfl
theorem xKu (d:Line) (l:List UInt8):(xY (eT d) fun z201=>
 kY (σ:=Bool) (
  if (sEq z201 (kL [])) then  some (.nx true) else  some (.nx (!sEq z201 (kL l)))) fun s209=>
 if s209 then
  some xDb
 else
  some (d,0))=some (if eP d=true∧jV d=l then (d,0) else xDb):=by
  rw[wH,bnd_s,xDq,xDq]
  cases h:eP d with
  | false=>
    rw[show(if false=true then jV d else [])=([]:List UInt8) from rfl,if_pos (show(([]:List UInt8)==[])=true from rfl),thn_nx,if_pos rfl,if_neg (fun h=>by cases h.1)]
  | true=>
    rw[show(if true=true then jV d else [])=jV d from rfl,xNr d,if_neg (by simp),thn_nx]
    by_cases he:jV d=l
    · rw[he,beq_self_eq_true,if_neg (by simp),if_pos ⟨rfl,rfl⟩]
    · have:(jV d==l)=false:=by rw[beq_eq_false_iff_ne];exact he
      rw[this,if_pos (by rfl),if_neg (fun h=>he h.2)]
theorem xCt {ρ:Type} {ws:List (List UInt8)} (hw:∀ x∈ws,x.length≤1048576) (k:Nat):∃ a,(if decide ((k:Int)<((ws.map kL).length:Int))=true then xY (ix (ws.map kL) (k:Int)) fun z161=>xY (kB z161) fun z169=>some (Out.nx (ρ:=ρ) z169) else some (.nx 0))=some (.nx a)∧(ws.length≤k→a=0)∧∀ x,ws[k]?=some x→kB (kL x)=some a∧(0≤a→jU a=x):=by
  by_cases h:k<ws.length
  · have hg:ws[k]?=some ws[k]:=List.getElem?_eq_getElem h
    obtain⟨n,h1,h2⟩:=xBy (hw _ (List.mem_of_getElem? hg));refine⟨n,?_,fun h3=>absurd h3 (by omega),fun x hx=>?_⟩
    · have hi:ix (ws.map kL) (k:Int)=some (kL ws[k]):=zI (by rw[List.getElem?_map,hg];rfl)
      rw[if_pos (decide_eq_true (by rw[List.length_map];omega)),hi,bnd_s,h1,bnd_s]
    · rw[hg] at hx
      obtain rfl:=Option.some.inj hx;exact⟨h1,h2⟩
  · refine⟨0,?_,fun _=>rfl,fun x hx=>?_⟩
    · rw[if_neg (by rw[List.length_map];simp;omega)]
    · rw[List.getElem?_eq_none (by omega)] at hx
      cases hx
theorem xMt {w:List UInt8} {r:List (List UInt8)} {l:List UInt8} {a b c:Int} (hc:eY 32 l=w::r) (ha0:(w::r).length≤1→a=0) (hb0:(w::r).length≤2→b=0) (hc0:(w::r).length≤3→c=0)
    (ha:∀ x,(w::r)[1]?=some x→kB (kL x)=some a∧(0≤a→jU a=x)) (hb:∀ x,(w::r)[2]?=some x→kB (kL x)=some b∧(0≤b→jU b=x)) (hcc:∀ x,(w::r)[3]?=some x→kB (kL x)=some c∧(0≤c→jU c=x)) :
    (if eP ⟨eN w,a,b,c⟩=true∧jV ⟨eN w,a,b,c⟩=l then ((⟨eN w,a,b,c⟩:Line),(0:Int)) else xDb)=xKl (w::r):=by
  have hj:=xHy 32 l;rw[hc] at hj
  by_cases hC:eP ⟨eN w,a,b,c⟩=true∧jV ⟨eN w,a,b,c⟩=l
  · rw[if_pos hC]
    obtain⟨hB,hT⟩:=hC;obtain⟨k1,a1,b1,c1,c2,b3⟩:=xBk hB;obtain⟨w1,w2⟩:=xDo (eN w) k1.1 k1.2;have na:=fU a;have nb:=fU b;have nc:=fU c;rw[tS k1] at hT;obtain⟨ia,va⟩:=uQ a1.1;obtain⟨ib,vb⟩:=uQ b1.1;obtain⟨ic,vc⟩:=uQ c1.1;have qa:pA (jU a):=⟨ia,yG a1.1 a1.2,by omega⟩;have qb:pA (jU b):=⟨ib,yG b1.1 b1.2,by omega⟩;have qc:pA (jU c):=⟨ic,yG c1.1 c1.2,by omega⟩
    by_cases h3:eN w=3
    · rw[if_neg (by omega),if_neg (by omega),List.append_nil,List.append_nil] at hT
      rw[← hT,jH _ w2,sP na] at hc;obtain⟨e1,e2⟩:=List.cons.inj hc;subst e2;rw[xMn,if_pos ⟨h3,qa⟩,va,h3,b3 h3,c2 (by omega)]
    · by_cases h2:eN w=2
      · rw[if_pos (by omega),if_pos h2,List.append_assoc,List.append_assoc,List.cons_append,List.cons_append] at hT
        rw[← hT,jH _ w2,jH _ na,jH _ nb,sP nc] at hc;obtain⟨e1,e2⟩:=List.cons.inj hc;subst e2;rw[xLa,if_pos ⟨h2,qa,qb,qc⟩,va,vb,vc,h2]
      · have h1:eN w=1:=by omega
        rw[if_pos (by omega),if_neg h2,List.append_nil,List.append_assoc,List.cons_append] at hT;rw[← hT,jH _ w2,jH _ na,sP nb] at hc;obtain⟨e1,e2⟩:=List.cons.inj hc;subst e2;rw[xLp,if_pos ⟨h1,qa,qb⟩,va,vb,h1,c2 (by omega)]
  · rw[if_neg hC]
    rcases xBi w with h0 | ⟨k1,k2,k3⟩
    · rw[xWe r h0]
    · match r with
      | []=>rfl
      | [x]=>
        rw[xMn]
        by_cases h7:eN w=3∧pA x
        · exfalso
          obtain⟨h8,h9,h10,h11⟩:=h7;have e2:=hb0 (by simp);have e3:=hc0 (by simp);obtain⟨r1,r2⟩:=ha x rfl;rw[gF h9 h10] at r1;obtain rfl:=Option.some.inj r1;subst e2 e3;refine hC ⟨pP ⟨k1,k2⟩ (by omega) (by decide) (by decide) (fun _=>rfl) (fun _=>rfl),?_⟩;rw[tS ⟨k1,k2⟩,if_neg (by omega),if_neg (by omega),List.append_nil,List.append_nil,k3,r2 (by omega),← hj]
          rfl
        · rw[if_neg h7]
      | [x,y]=>
        rw[xLp]
        by_cases h7:eN w=1∧pA x∧pA y
        · exfalso
          obtain⟨h8,⟨h9,h10,h11⟩,h12,h13,h14⟩:=h7;have e3:=hc0 (by simp);obtain⟨r1,r2⟩:=ha x rfl;rw[gF h9 h10] at r1;obtain rfl:=Option.some.inj r1;obtain⟨r3,r4⟩:=hb y rfl;rw[gF h12 h13] at r3;obtain rfl:=Option.some.inj r3;subst e3;refine hC ⟨pP ⟨k1,k2⟩ (by omega) (by omega) (by decide) (fun _=>rfl) (fun _=>by omega),?_⟩;rw[tS ⟨k1,k2⟩,if_pos (by omega),if_neg (by omega),List.append_nil,k3,r2 (by omega),r4 (by omega),← hj]
          simp [wW]
        · rw[if_neg h7]
      | [x,y,z]=>
        rw[xLa]
        by_cases h7:eN w=2∧pA x∧pA y∧pA z
        · exfalso
          obtain⟨h8,⟨h9,h10,h11⟩,⟨h12,h13,h14⟩,h15,h16,h17⟩:=h7;obtain⟨r1,r2⟩:=ha x rfl;rw[gF h9 h10] at r1;obtain rfl:=Option.some.inj r1;obtain⟨r3,r4⟩:=hb y rfl;rw[gF h12 h13] at r3;obtain rfl:=Option.some.inj r3;obtain⟨r5,r6⟩:=hcc z rfl;rw[gF h15 h16] at r5;obtain rfl:=Option.some.inj r5;refine hC ⟨pP ⟨k1,k2⟩ (by omega) (by omega) (by omega) (fun _=>by omega) (fun _=>by omega),?_⟩;rw[tS ⟨k1,k2⟩,if_pos (by omega),if_pos h8,k3,r2 (by omega),r4 (by omega),r6 (by omega),← hj]
          simp [wW]
        · rw[if_neg h7]
      | x::y::z::u::r=>rfl
theorem xEv {l:List UInt8} (hl:l.length≤1048576):iL (kL l)=some (xKl (eY 32 l)):=by
  unfold iL
  rw[xRg hl,bnd_s]
  unfold gH
  have hm:=xFp 32 l
  cases hc:eY 32 l with
  | nil=>exact absurd hc (xDr 32 l)
  | cons w r=>
    rw[hc] at hm;obtain⟨a,a1,a2,a3⟩:=xCt (ρ:=Line×Int) (ws:=w::r) (fun x hx=>by have:=hm x hx;omega) 1;obtain⟨b,b1,b2,b3⟩:=xCt (ρ:=Line×Int) (ws:=w::r) (fun x hx=>by have:=hm x hx;omega) 2;obtain⟨c,c1,c2,c3⟩:=xCt (ρ:=Line×Int) (ws:=w::r) (fun x hx=>by have:=hm x hx;omega) 3
    have hk: -9223372036854775808≤eN w - 1+1∧eN w - 1+1≤9223372036854775807:=by
      rcases xBi w with h | ⟨h1,h2,_⟩<;>omega
    rw[show ix ((w::r).map kL) 0=some (kL w) from rfl,bnd_s,bnd_s,xIy,bnd_s,kI hk.1 hk.2,bnd_s,show eN w - 1+1=eN w by omega];have a1':(if decide ((1:Int)<(((w::r).map kL).length:Int))=true then xY (ix ((w::r).map kL) 1) fun z166=>xY (kB z166) fun z174=>some (Out.nx (ρ:=Line×Int) z174) else some (.nx 0))=some (.nx a):=a1;have b1':(if decide ((2:Int)<(((w::r).map kL).length:Int))=true then xY (ix ((w::r).map kL) 2) fun z195=>xY (kB z195) fun z203=>some (Out.nx (ρ:=Line×Int) z203) else some (.nx 0))=some (.nx b):=b1;have c1':(if decide ((3:Int)<(((w::r).map kL).length:Int))=true then xY (ix ((w::r).map kL) 3) fun z224=>xY (kB z224) fun z232=>some (Out.nx (ρ:=Line×Int) z232) else some (.nx 0))=some (.nx c):=c1;rw[a1',thn_nx,b1',thn_nx,c1',thn_nx];have hlast:=xKu ⟨eN w,a,b,c⟩ l;have hr:=xMt hc a2 b2 c2 a3 b3 c3;rw[hr] at hlast;exact hlast
end Go.Proofs.YtfmnjkpddljdcaaGreatDoor
namespace Go.Proofs.YtfmnjkpddljdcaaGreatDoor
set_option linter.unusedVariables false
set_option linter.unusedSimpArgs false
theorem n9 {n:Int} (h:0≤n∧n≤999):pA (jU n)∧((jQ 0 (jU n):Nat):Int)=n:=by
  obtain⟨h1,h2⟩:=uQ h.1;exact⟨⟨h1,yG h.1 h.2,by omega⟩,h2⟩
theorem xPt {l:Line} (h:eP l=true):xKl (eY 32 (jV l))=(l,0):=by
  obtain⟨k,a,b,c⟩:=l;obtain⟨hk,ha,hb,hc,h2,h3⟩:=xBk h;obtain⟨a1,a2⟩:=n9 ha;obtain⟨b1,b2⟩:=n9 hb;obtain⟨c1,c2⟩:=n9 hc;obtain⟨k1,k2⟩:=xDo k hk.1 hk.2;rw[tS hk]
  have:k=1∨k=2∨k=3:=by omega
  rcases this with rfl | rfl | rfl
  · have e:tT 1++32::jU a++(if (1:Int)≤2 then 32::jU b else [])++(if (1:Int)=2 then 32::jU c else [])=tT 1++32::(jU a++32::jU b):=by simp
    obtain rfl:=h2 (by decide);rw[e,jH _ k2,jH _ (fU a),sP (fU b),xLp,if_pos ⟨k1,a1,b1⟩,a2,b2]
  · have e:tT 2++32::jU a++(if (2:Int)≤2 then 32::jU b else [])++(if (2:Int)=2 then 32::jU c else [])=tT 2++32::(jU a++32::(jU b++32::jU c)):=by simp
    rw[e,jH _ k2,jH _ (fU a),jH _ (fU b),sP (fU c),xLa,if_pos ⟨k1,a1,b1,c1⟩,a2,b2,c2]
  · have e:tT 3++32::jU a++(if (3:Int)≤2 then 32::jU b else [])++(if (3:Int)=2 then 32::jU c else [])=tT 3++32::jU a:=by simp
    obtain rfl:=h2 (by decide);obtain rfl:=h3 rfl;rw[e,jH _ k2,sP (fU a),xMn,if_pos ⟨k1,a1⟩,a2]
end Go.Proofs.YtfmnjkpddljdcaaGreatDoor
