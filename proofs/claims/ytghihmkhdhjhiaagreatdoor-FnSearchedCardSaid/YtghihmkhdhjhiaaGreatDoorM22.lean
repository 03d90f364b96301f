import Derived.Test.YtghihmkhdhjhiaaGreatDoorMT
import Derived.Test.YtghihmkhdhjhiaaGreatDoorM1
import Derived.Laws.Strings
import Derived.Lib.SplitLaws
namespace Go.Proofs.YtghihmkhdhjhiaaGreatDoor
set_option linter.unusedVariables false
set_option linter.unusedSimpArgs false
theorem bY (l:List UInt8):(qW l).size=l.length:=by simp [qW,ByteArray.size]
theorem xCf (a b:List UInt8):qW a++qW b=qW (a++b):=by
  apply ByteArray.ext
  simp [qW]
theorem rM {a b:List UInt8} (h:a.length+b.length≤9223372036854775807):wV (qW a) (qW b)=some (qW (a++b)):=by
  unfold wV
  rw[bY,bY,if_pos h,xCf]
theorem xEm (n:Nat) (h:n≤9223372036854775807):(Lib.decDigits n).length≤21:=by
  have:=Lib.itoa_length_le (n:Int) (by omega) (by omega)
  rwa [Lib.itoa_nonneg] at this
def fI (n:Int):List UInt8:=Lib.decDigits n.toNat
theorem mE {n:Int} (h:n≤9223372036854775807):(fI n).length≤21:=xEm _ (by omega)
theorem xBj {n:Int} (h0:0≤n):jG n=some (qW (fI n)):=by
  unfold jG cX
  rw[if_pos rfl,bnd_s]
  have:Lib.itoa n=fI n:=by
    unfold Lib.itoa fI
    rw[if_neg (by omega)]
  rw[this]
  rfl
theorem xDs (a:ByteArray):sEq a a=true:=by simp [sEq]
theorem xCy (a b c:Int):kD a b c=some (decide (b≤a) && decide (a≤c)):=by
  unfold kD
  by_cases h:b≤a<;>simp [h]
theorem yG (l:List Int) (p:Int→Bool) (f:Int→Option Bool) (hf:∀ x∈l,f x=some (p x)):qT l f=some (l.any p):=by
  obtain⟨i,h1,h2⟩:=lX l p f hf;have h3:vD l f=some i:=h1
  unfold qT
  rw[h3,bnd_s,h2]
theorem xIm {α:Type} (l:List α) (p:α→Bool):(l.any fun a=>!p a) = !(l.all p):=by rw[List.all_eq_not_any_not,Bool.not_not]
theorem xCs (T:Int) (l:List Int) (n:Int) (hT:1≤T∧T≤1000000):zO T l n=some (decide ((l.length:Int)=n) && l.all fun x=>decide (0≤x) && decide (x≤T - 1)):=by
  unfold zO
  have h:∀ x:Int,aU x T=some (!(decide (0≤x) && decide (x≤T - 1))):=fun x=>by
    unfold aU cZ
    rw[zT (by omega) (by omega),bnd_s,xCy,bnd_s,bnd_s]
  by_cases hl:(l.length:Int)=n
  · rw[if_pos (by simpa using hl),yG l (fun x=>!(decide (0≤x) && decide (x≤T - 1))) _ (fun x _=>h x),bnd_s,thn_nx,xIm,Bool.not_not]
    simp [hl]
  · rw[if_neg (by simpa using hl),thn_nx]
    simp [hl]
theorem pT (a b:List UInt8):sEq (qW a) (qW b)=(a==b):=by
  unfold sEq
  rw[ByteArray.toList_eq,ByteArray.toList_eq]
  rfl
end Go.Proofs.YtghihmkhdhjhiaaGreatDoor
namespace Go.Proofs.YtghihmkhdhjhiaaGreatDoor
set_option linter.unusedVariables false
set_option linter.unusedSimpArgs false
theorem tB:∀ (l:List Int) (k:Nat) (s:List ByteArray),(∀ n∈l,0≤n)→s.length+l.length≤1048576→qR (σ:=(List ByteArray)) (ρ:=ByteArray) (fun(k58:Nat) (x60:Int) (s48:(List ByteArray))=>
   xZ (jG x60) fun z69=>
   xZ (ap s48 ([z69])) fun z79=>
   some (.go z79)) l k s=some (.nx (s++l.map fun n=>qW (fI n)))
  | [],_,s,_,_=>by simp
  | n::l,k,s,h0,hl=>by
    rw[List.length_cons] at hl;rw[aB (s':=s++[qW (fI n)]) (by rw[xBj (h0 n (by simp)),bnd_s,bM (by simp only[List.length_cons,List.length_nil];omega),bnd_s]),tB l (k+1) _ (fun m hm=>h0 m (by simp [hm])) (by simp only[List.length_append,List.length_singleton];omega)]
    simp
theorem xIa (l:List Int) (h0:∀ n∈l,0≤n) (h1:∀ n∈l,n≤9223372036854775807) (hl:l.length≤1048576):gD l=some (qW (Lib.join (l.map fI) [32])):=by
  unfold gD
  rw[tB l 0 [] h0 (by simpa using hl),thn_nx,List.nil_append]
  have e:wD (l.map fun n=>qW (fI n)) (qW [32])=Lib.join (l.map fI) [32]:=by
    unfold wD
    rw[List.map_map]
    rfl
  have hs:(Lib.join (l.map fI) [32]).length≤22*l.length:=by
    cases l with
    | nil=>simp [Lib.join_nil]
    | cons a l=>
      rw[List.map_cons,Lib.join_length]
      have:∀ l:List Int,(∀ n∈l,n≤9223372036854775807)→Lib.lens (l.map fI)≤21*l.length:=by
        intro l
        induction l with
        | nil=>intro _;simp [Lib.lens]
        | cons b l ih=>
          intro h;have h2:=ih (fun n hn=>h n (by simp [hn]));have h3:=mE (h b (by simp));simp only[Lib.lens,List.map_cons,List.sum_cons,List.length_cons] at h2 ⊢
          omega
      have h4:=this (a::l) h1;simp only[List.length_cons,List.length_nil,List.length_map,List.map_cons] at h4 ⊢
      omega
  unfold gO
  rw[e,if_pos ⟨by rw[List.length_map];omega,by omega⟩,bnd_s]
  rfl
def in9 (n:Int):Bool:=decide (0≤n) && decide (n≤999)
def cK (x:Line):Bool:=(x.kind==1 || x.kind==2 || x.kind==3) && in9 x.var && in9 x.value && in9 x.con && (x.kind==2 || x.con==0) && (x.kind != 3 || x.value==0)
theorem xBz (x:Line):eT x=some (cK x):=by
  unfold eT
  rw[xCy,bnd_s,xCs _ _ _ (by decide)]
  by_cases hk:x.kind=1∨x.kind=2∨x.kind=3
  · have hw:(decide (1≤x.kind) && decide (x.kind≤3))=true:=by simp;omega
    rw[hw,if_neg (by simp),bnd_s,thn_nx]
    by_cases ha:(in9 x.var && in9 x.value && in9 x.con)=true
    · have ha':(decide ((([x.var,x.value,x.con]:List Int).length:Int)=3) && ([x.var,x.value,x.con].all fun y=>decide (0≤y) && decide (y≤1000 - 1)))=true:=by
        simp only[in9,Bool.and_eq_true] at ha;simp only[List.all_cons,List.all_nil,Bool.and_eq_true,Bool.and_true];exact⟨rfl,ha.1.1,ha.1.2,ha.2⟩
      rw[ha',if_neg (by simp)];simp only[Bool.and_eq_true] at ha
      unfold zD cK
      rw[ha.1.1,ha.1.2,ha.2];have hc:∀ l:List Int,qT l (fun a0=>fD a0)=some (l.any fun y=>y != 0):=fun l=>yG l _ _ (fun y _=>rfl)
      rcases hk with hk | hk | hk
      · simp only[hk,zT (show -9223372036854775808≤(1:Int) - 1 by decide) (by decide),bnd_s,ix,sl,hc]
        simp [bne,xZ,hc]
      · simp only[hk,zT (show -9223372036854775808≤(2:Int) - 1 by decide) (by decide),bnd_s,ix,sl,hc]
        simp [bne,xZ,hc]
      · simp only[hk,zT (show -9223372036854775808≤(3:Int) - 1 by decide) (by decide),bnd_s,ix,sl,hc]
        simp [bne,xZ,hc]
        exact Bool.and_comm _ _
    · have ha':(decide ((([x.var,x.value,x.con]:List Int).length:Int)=3) && ([x.var,x.value,x.con].all fun y=>decide (0≤y) && decide (y≤1000 - 1)))=false:=by
        rw[Bool.not_eq_true] at ha;rw[Bool.and_eq_false_iff]
        right
        simp only[in9] at ha;simp only[List.all_cons,List.all_nil,Bool.and_true];rw[← Bool.and_assoc];exact ha
      rw[ha',if_pos (by simp)]
      unfold cK
      rw[Bool.not_eq_true] at ha
      have:((x.kind==1 || x.kind==2 || x.kind==3) && in9 x.var && in9 x.value && in9 x.con)=false:=by
        rw[Bool.and_assoc,Bool.and_assoc,← Bool.and_assoc (in9 x.var),ha,Bool.and_false]
      rw[this]
      simp
  · have hw:(decide (1≤x.kind) && decide (x.kind≤3))=false:=by simp;omega
    rw[hw,if_pos (by simp),thn_nx,if_pos rfl]
    unfold cK
    have:(x.kind==1 || x.kind==2 || x.kind==3)=false:=by simp;omega
    rw[this]
    simp
theorem gP {n:Int} (h:in9 n=true):0≤n∧n≤999:=by
  unfold in9 at h
  simp only[Bool.and_eq_true,decide_eq_true_eq] at h;exact h
theorem rC {x:Line} (h:cK x=true):(x.kind=1∨x.kind=2∨x.kind=3)∧in9 x.var=true∧in9 x.value=true∧in9 x.con=true:=by
  unfold cK at h
  simp only[Bool.and_eq_true,Bool.or_eq_true,beq_iff_eq] at h;obtain⟨⟨⟨⟨⟨h1,h2⟩,h3⟩,h4⟩,_⟩,_⟩:=h;exact⟨by omega,h2,h3,h4⟩
def bG (x:Line):List UInt8:=
  if x.kind=1 then [99,104,111,111,115,101]++32::fI x.var++32::fI x.value
  else if x.kind=2 then [114,101,109,111,118,101]++32::fI x.var++32::fI x.value++32::fI x.con
  else [101,109,112,116,121]++32::fI x.var
theorem lG (x:Line):bV x=some (qW (if cK x then bG x else [])):=by
  unfold bV
  rw[show(Line.mk x.kind x.var x.value x.con)=x from rfl,xBz,bnd_s]
  cases h:cK x with
  | false=>rfl
  | true=>
    obtain⟨hk,h1,h2,h3⟩:=rC h;have g1:=gP h1;have g2:=gP h2;have g3:=gP h3;have n1:=mE (n:=x.var) (by omega);have n2:=mE (n:=x.value) (by omega);have n3:=mE (n:=x.con) (by omega);rw[if_neg (by simp),if_pos rfl]
    unfold dM
    have sp:∀ l:List Int,(∀ n∈l,0≤n∧n≤999)→l.length≤3→gD l=some (qW (Lib.join (l.map fI) [32])):=fun l h hl=>xIa l (fun n hn=>(h n hn).1) (fun n hn=>by have:=(h n hn).2;omega) (by omega)
    rcases hk with hk | hk | hk
    · have hm:zD x=some [x.var,x.value]:=by unfold zD;rw[hk];rfl
      rw[hk,zT (by decide) (by decide),bnd_s,bnd_s,hm,show ix [qW [99,104,111,111,115,101],qW [114,101,109,111,118,101],qW [101,109,112,116,121]] ((1:Int) - 1)=some (qW [99,104,111,111,115,101]) from rfl,bnd_s,rM (by decide),bnd_s,bnd_s,
        sp _ (by simp only[List.forall_mem_cons,List.not_mem_nil,false_implies,implies_true,and_true];exact⟨g1,g2⟩) (by simp),bnd_s]
      have e:Lib.join ([x.var,x.value].map fI) [32]=fI x.var++32::fI x.value:=by
        simp [Lib.join_cons,Lib.joinTail]
      rw[e,rM (by simp only[List.length_append,List.length_cons,List.length_nil];omega),bnd_s]
      unfold bG
      rw[if_pos hk]
      simp
    · have hm:zD x=some [x.var,x.value,x.con]:=by unfold zD;rw[hk];rfl
      rw[hk,zT (by decide) (by decide),bnd_s,bnd_s,hm,show ix [qW [99,104,111,111,115,101],qW [114,101,109,111,118,101],qW [101,109,112,116,121]] ((2:Int) - 1)=some (qW [114,101,109,111,118,101]) from rfl,bnd_s,rM (by decide),bnd_s,bnd_s,
        sp _ (by simp only[List.forall_mem_cons,List.not_mem_nil,false_implies,implies_true,and_true];exact⟨g1,g2,g3⟩) (by simp),bnd_s]
      have e:Lib.join ([x.var,x.value,x.con].map fI) [32]=fI x.var++32::fI x.value++32::fI x.con:=by
        simp [Lib.join_cons,Lib.joinTail]
      rw[e,rM (by simp only[List.length_append,List.length_cons,List.length_nil];omega),bnd_s]
      unfold bG
      rw[if_neg (by omega),if_pos hk]
      simp
    · have hm:zD x=some [x.var]:=by unfold zD;rw[hk];rfl
      rw[hk,zT (by decide) (by decide),bnd_s,bnd_s,hm,show ix [qW [99,104,111,111,115,101],qW [114,101,109,111,118,101],qW [101,109,112,116,121]] ((3:Int) - 1)=some (qW [101,109,112,116,121]) from rfl,bnd_s,rM (by decide),bnd_s,bnd_s,
        sp _ (by simp only[List.forall_mem_cons,List.not_mem_nil,false_implies,implies_true,and_true];exact g1) (by simp),bnd_s]
      have e:Lib.join ([x.var].map fI) [32]=fI x.var:=by
        simp [Lib.join_cons,Lib.joinTail]
      rw[e,rM (by simp only[List.length_append,List.length_cons,List.length_nil];omega),bnd_s]
      unfold bG
      rw[if_neg (by omega),if_neg (by omega)]
      simp
end Go.Proofs.YtghihmkhdhjhiaaGreatDoor
namespace Go.Proofs.YtghihmkhdhjhiaaGreatDoor
set_option linter.unusedVariables false
set_option linter.unusedSimpArgs false
theorem xGy {x:Line} (h:cK x=true):(bG x).length≤80:=by
  obtain⟨hk,h1,h2,h3⟩:=rC h;have g1:=gP h1;have g2:=gP h2;have g3:=gP h3;have n1:=mE (n:=x.var) (by omega);have n2:=mE (n:=x.value) (by omega);have n3:=mE (n:=x.con) (by omega)
  unfold bG
  split
  · simp only[List.length_append,List.length_cons,List.length_nil];omega
  · split
    · simp only[List.length_append,List.length_cons,List.length_nil];omega
    · simp only[List.length_append,List.length_cons,List.length_nil];omega
theorem xKt (x:Line):(bG x==([]:List UInt8))=false:=by
  unfold bG
  split
  · rfl
  · split<;>rfl
theorem bw_b {a b:List UInt8} (h:a.length+b.length≤140737488355328):bw (qW a) (qW b)=some (qW (a++b)):=by
  unfold bw
  rw[bY,bY,if_pos h,xCf]
def xKz (l:List Line):Bool:=decide ((l.length:Int)≤4000) && l.all cK
def nA (l:List Line):List UInt8:=(l.map fun x=>bG x++[10]).flatten
theorem xEa:∀ (l:List Line) (k:Nat) (s:List UInt8),s.length+81*l.length≤1000000→qR (σ:=ByteArray) (ρ:=ByteArray) (fun(k86:Nat) (x88:Line) (s82:ByteArray)=>
    xZ (bV (Line.mk x88.kind x88.var x88.value x88.con)) fun z111=>
    if (sEq z111 (qW [])) then
     some (.ret ((qW [])))
    else
     xZ (wV z111 (qW [10])) fun z116=>
     xZ (bw s82 z116) fun z118=>
     some (.go z118)) l k (qW s)=some (if l.all cK then .nx (qW (s++nA l)) else .ret (qW []))
  | [],_,s,_=>by simp [nA]
  | x::l,k,s,h=>by
    rw[List.length_cons] at h
    cases hf:cK x with
    | false=>
      rw[fU (r:=qW []) (by rw[show(Line.mk x.kind x.var x.value x.con)=x from rfl,lG,bnd_s,hf,show(if false=true then bG x else [])=[] from rfl,pT];rfl)]
      simp [hf]
    | true=>
      have hl:=xGy hf
      rw[aB (s':=qW (s++(bG x++[10]))) (by
        rw[show(Line.mk x.kind x.var x.value x.con)=x from rfl,lG,bnd_s,hf,if_pos rfl,pT,xKt,if_neg (by simp),rM (by simp only[List.length_cons,List.length_nil];omega),bnd_s,bw_b (by simp only[List.length_append,List.length_cons,List.length_nil];omega),bnd_s]),
        xEa l (k+1) _ (by simp only[List.length_append,List.length_cons,List.length_nil];omega)]
      simp [hf,nA]
theorem pL (l:List Line):aP l=some (qW (if xKz l then nA l else [])):=by
  unfold aP xKz
  by_cases h:(l.length:Int)≤4000
  · rw[if_neg (by simp;omega),xEa l 0 [] (by simp only[List.length_nil];omega)]
    cases ha:l.all cK<;>simp [h]
  · rw[if_pos (by simp;omega)]
    simp [h]
end Go.Proofs.YtghihmkhdhjhiaaGreatDoor
namespace Go.Proofs.YtghihmkhdhjhiaaGreatDoor
set_option linter.unusedVariables false
set_option linter.unusedSimpArgs false
def bU (c:UInt8):List UInt8→List (List UInt8)
  | []=>[[]]
  | b::l=>if b=c then []::bU c l else match bU c l with | []=>[[b]] | x::r=>(b::x)::r
theorem uM (c:UInt8):∀ l,bU c l≠[]
  | []=>by simp [bU]
  | b::l=>by
    unfold bU
    split
    · simp
    · split<;>simp
theorem xAp (c:UInt8):∀ l:List UInt8,Lib.splitK [c] 0 (l.count c) l=bU c l
  | []=>rfl
  | b::l=>by
    have ih:=xAp c l
    by_cases h:b=c
    · subst h
      have hix:Lib.index (b::l) [b]=0:=by rw[Lib.index];simp [List.isPrefixOf]
      rw[List.count_cons_self,Lib.splitK,hix,bU,if_pos rfl,← ih]
      rfl
    · have hp:([c]:List UInt8).isPrefixOf (b::l)=false:=by simp [List.isPrefixOf,Ne.symm h]
      have hix:Lib.index (b::l) [c]=if Lib.index l [c] == -1 then -1 else Lib.index l [c]+1:=by rw[Lib.index,hp];simp
      rw[List.count_cons_of_ne (by simpa using h),bU,if_neg h,← ih]
      cases hk:l.count c with
      | zero=>rfl
      | succ k=>
        by_cases hm:Lib.index l [c]= -1
        · rw[Lib.splitK,Lib.splitK,hix]
          simp [hm]
        · have hge:=Lib.index_ge l [c]
          obtain⟨j,hj⟩:∃ j:Nat,Lib.index l [c]=j:=⟨(Lib.index l [c]).toNat,by omega⟩
          have h1:¬ (((j:Nat):Int) == -1)=true:=by simp
          have h2:¬ (((j:Nat):Int)+1 == -1)=true:=by simp;omega
          rw[Lib.splitK,Lib.splitK,hix,hj,if_neg h1,if_neg h2,if_neg h1]
          have h3:(((j:Nat):Int)+1).toNat=j+1:=by omega
          rw[h3]
          simp
theorem xAb (c:UInt8) (l:List UInt8):Lib.countB (qW l) (qW [c])=l.count c:=Lib.count_one c l
theorem xGx (c:UInt8) (l:List UInt8):Lib.splitB (qW [c]) 0 (Lib.countB (qW l) (qW [c])) (qW l)=(bU c l).map qW:=by
  have h:=Lib.splitB_data (qW [c]) 0 (Lib.countB (qW l) (qW [c])) (qW l);rw[xAb] at h ⊢;have e:Lib.splitK (qW [c]).data.toList 0 (l.count c) (qW l).data.toList=bU c l:=xAp c l;rw[e] at h;rw[← h,List.map_map]
  have:(qW ∘ fun x:ByteArray=>x.data.toList)=id:=by
    funext x
    apply ByteArray.ext
    simp [qW]
  rw[this,List.map_id]
theorem xCe {c:UInt8} {l:List UInt8} (h:l.length≤1048576):bS (qW l) (qW [c])=some ((bU c l).map qW):=by
  unfold bS
  have h1:(qW l).size=l.length:=bY l
  have h2:Lib.countB (qW l) (qW [c])≤l.length:=by rw[xAb];exact List.count_le_length
  rw[if_pos ⟨by omega,by rw[bY];exact Nat.le_refl 1,by omega⟩,xGx]
theorem xMs {l:List UInt8} {i j:Nat} (h:i≤j) (hj:j≤l.length):ssl (qW l) (i:Int) (j:Int)=some (qW ((l.take j).drop i)):=by
  unfold ssl
  rw[if_pos ⟨by omega,by omega,by rw[bY];omega⟩]
  congr 1
  apply ByteArray.ext
  apply Array.ext'
  rw[ByteArray.data_extract]
  simp [qW,List.drop_take]
end Go.Proofs.YtghihmkhdhjhiaaGreatDoor
namespace Go.Proofs.YtghihmkhdhjhiaaGreatDoor
set_option linter.unusedVariables false
set_option linter.unusedSimpArgs false
def dig (c:UInt8):Bool:=decide (48≤c.toNat) && decide (c.toNat≤57)
def fF (s:Nat) (l:List UInt8):Nat:=l.foldl (fun s c=>s*10+(c.toNat - 48)) s
theorem xAu (s:Nat) (l:List UInt8) (c:UInt8):fF s (l++[c])=fF s l*10+(c.toNat - 48):=by unfold fF;rw[List.foldl_append];rfl
def mU (l:List UInt8):Bool:=!l.isEmpty && l.all dig && (l.head? != some 48 || l.length==1)
theorem xKk:∀ l:List UInt8,l≠[]→l.all dig=true→l.head?≠some 48→1≤fF 0 l:=by
  have mono:∀ (l:List UInt8) (s:Nat),1≤s→1≤fF s l:=by
    intro l
    induction l with
    | nil=>intro s h;exact h
    | cons c l ih=>intro s h;exact ih (s*10+(c.toNat - 48)) (by omega)
  intro l h1 h2 h3
  cases l with
  | nil=>contradiction
  | cons c l=>
    have hd:dig c=true:=by simp only[List.all_cons,Bool.and_eq_true] at h2;exact h2.1
    unfold dig at hd
    simp only[Bool.and_eq_true,decide_eq_true_eq] at hd;have hc:c.toNat≠48:=fun e=>h3 (by rw[List.head?_cons];congr 1;exact UInt8.toNat_inj.1 (by rw[e];rfl));exact mono l (0*10+(c.toNat - 48)) (by omega)
theorem xCr {c:UInt8} (h:dig c=true):UInt8.ofNat (48+(c.toNat - 48))=c:=by
  unfold dig at h
  simp only[Bool.and_eq_true,decide_eq_true_eq] at h;rw[show 48+(c.toNat - 48)=c.toNat by omega];exact UInt8.ofNat_toNat
theorem xOi (n:Nat):∀ l:List UInt8,l.length=n→mU l=true→Lib.decDigits (fF 0 l)=l:=by
  induction n with
  | zero=>intro l hl h;rw[List.length_eq_zero_iff] at hl;subst hl;simp [mU] at h
  | succ n ih=>
    intro l hl h
    have hne:l≠[]:=by intro e;subst e;simp at hl
    obtain⟨l',c,rfl⟩:∃ l' c,l=l'++[c]:=⟨l.dropLast,l.getLast hne,(List.dropLast_concat_getLast hne).symm⟩
    unfold mU at h
    simp only[Bool.and_eq_true,List.all_append,List.all_cons,List.all_nil,Bool.and_true] at h;obtain⟨⟨_,h2,h3⟩,h4⟩:=h;rw[xAu];have hc:=h3
    unfold dig at hc
    simp only[Bool.and_eq_true,decide_eq_true_eq] at hc
    by_cases hl':l'=[]
    · subst hl'
      have:fF 0 ([]:List UInt8)=0:=rfl;rw[this,Nat.zero_mul,Nat.zero_add,Lib.decDigits_one (by omega),xCr h3]
      rfl
    · have hh:l'.head?≠some 48:=by
        intro e
        have e2:(l'++[c]).head?=some 48:=by rw[List.head?_append,e];rfl
        have e3:2≤(l'++[c]).length:=by
          rw[List.length_append,List.length_singleton];have:=List.length_pos_iff.2 hl'
          omega
        rw[e2] at h4;simp only[bne_self_eq_false,Bool.false_or,beq_iff_eq] at h4
        omega
      have hp:=xKk l' hl' h2 hh
      have hi:mU l'=true:=by
        unfold mU
        rw[h2]
        have h5:l'.isEmpty=false:=by cases l' with | nil=>contradiction | cons _ _=>rfl
        have h6:(l'.head? != some 48)=true:=by simpa using hh
        rw[h5,h6]
        rfl
      rw[Lib.decDigits,dif_neg (by omega)]
      have e1:(fF 0 l'*10+(c.toNat - 48)) / 10=fF 0 l':=by omega
      have e2:(fF 0 l'*10+(c.toNat - 48)) % 10=c.toNat - 48:=by omega
      rw[e1,e2,ih l' (by rw[List.length_append,List.length_singleton] at hl;omega) hi,xCr h3]
end Go.Proofs.YtghihmkhdhjhiaaGreatDoor
namespace Go.Proofs.YtghihmkhdhjhiaaGreatDoor
set_option linter.unusedVariables false
set_option linter.unusedSimpArgs false
theorem xIn (M:Nat) (hM:1000000000≤M):∀ (l:List UInt8) (acc k:Nat),l.all dig=true→acc<10 ^ k→k+l.length≤9→Lib.parseUintM M acc l= .ok (fF acc l)
  | [],acc,k,_,_,_=>rfl
  | c::l,acc,k,h,ha,hk=>by
    simp only[List.all_cons,Bool.and_eq_true] at h;have hd:=h.1
    unfold dig at hd
    simp only[Bool.and_eq_true,decide_eq_true_eq] at hd;rw[List.length_cons] at hk;have h1:10 ^ (k+1)≤10 ^ 9:=Nat.pow_le_pow_right (by decide) (by omega);rw[Nat.pow_succ] at h1
    unfold Lib.parseUintM
    rw[if_pos hd,if_neg (by omega),if_neg (by omega),xIn M hM l _ (k+1) h.2 (by rw[Nat.pow_succ];omega) (by omega)]
    rfl
theorem xGn:∀ (l:List UInt8) (acc k:Nat),l.all dig=true→acc<10 ^ k→fF acc l<10 ^ (k+l.length)
  | [],acc,k,_,ha=>ha
  | c::l,acc,k,h,ha=>by
    simp only[List.all_cons,Bool.and_eq_true] at h;have hd:=h.1
    unfold dig at hd
    simp only[Bool.and_eq_true,decide_eq_true_eq] at hd;have:=xGn l (acc*10+(c.toNat - 48)) (k+1) h.2 (by rw[Nat.pow_succ];omega);rw[List.length_cons,show k+(l.length+1)=k+1+l.length by omega];exact this
theorem xHb {l:List UInt8} (h:mU l=true) (hl:l.length≤9):Lib.parseIntB 64 l= .ok ((fF 0 l:Nat):Int):=by
  have h0:=h
  unfold mU at h
  simp only[Bool.and_eq_true] at h;have hall:=h.1.2
  cases l with
  | nil=>simp at h
  | cons c r=>
    have hd:dig c=true:=by simp only[List.all_cons,Bool.and_eq_true] at hall;exact hall.1
    unfold dig at hd
    simp only[Bool.and_eq_true,decide_eq_true_eq] at hd;have hv:=xGn (c::r) 0 0 hall (by decide);have hp:10 ^ (0+(c::r).length)≤10 ^ 9:=Nat.pow_le_pow_right (by decide) (by omega);rw[Lib.parseIntB_plain 64 c r (by omega) (by omega)]
    unfold Lib.parseUintB
    rw[if_neg (by simp),xIn _ (by decide) (c::r) 0 0 hall (by decide) (by omega)]
    unfold Lib.signlessC
    simp only;rw[if_neg (by omega)]
theorem xLz (l:List UInt8):xO (Lib.intSat 64 l):=by
  unfold Lib.intSat
  split<;>decide
theorem wR {l:List UInt8} (hl:l.length≤1048576):bZ (qW l) 10 64=some (match Lib.parseIntB 64 l with | .ok v=>(v,true) | .range=>(Lib.intSat 64 l,false) | _=>(0,false)):=by
  unfold bZ
  rw[if_pos ⟨rfl,rfl,by rw[bY];omega,xLz _⟩]
  rfl
theorem dK {l:List UInt8} (h:mU l=true) (hl:l.length≤9):vT (qW l)=some ((fF 0 l:Nat):Int):=by
  unfold vT
  rw[wR (by omega),xHb h hl,bnd_s]
  have hn:fI ((fF 0 l:Nat):Int)=l:=by
    unfold fI
    rw[Int.toNat_natCast];exact xOi l.length l rfl h
  have h0:¬ (((fF 0 l:Nat):Int)<0):=by omega
  simp only[Bool.not_true,Bool.false_eq_true,if_false];rw[if_neg (fun h=>h0 (of_decide_eq_true h)),xBj (by omega),bnd_s,thn_nx,hn,xDs]
  rfl
theorem tS {l:List UInt8} (hl:l.length≤1048576):∃ n,vT (qW l)=some n∧(0≤n→fI n=l):=by
  unfold vT
  rw[wR hl,bnd_s]
  cases hp:Lib.parseIntB 64 l
  case range=>exact⟨-2,rfl,fun h=>absurd h (by decide)⟩
  case ok v=>
    simp only[Bool.not_true,Bool.false_eq_true,if_false]
    by_cases hv:v<0
    · rw[if_pos (decide_eq_true hv),thn_nx,if_pos rfl]
      exact⟨-2,rfl,fun h=>absurd h (by decide)⟩
    · rw[if_neg (by simpa using hv),xBj (by omega),bnd_s,thn_nx,pT]
      by_cases hn:fI v=l
      · rw[hn,beq_self_eq_true,if_neg (by simp)]
        exact⟨v,rfl,fun _=>hn⟩
      · have:(fI v==l)=false:=by rw[beq_eq_false_iff_ne];exact hn
        rw[this,if_pos (by rfl)];exact⟨-2,rfl,fun h=>absurd h (by decide)⟩
  · exact⟨-2,rfl,fun h=>absurd h (by decide)⟩
theorem xEc (k:Nat) (h:k<10):dig (UInt8.ofNat (48+k))=true∧(UInt8.ofNat (48+k)).toNat=48+k:=by
  have:(UInt8.ofNat (48+k)).toNat=48+k:=by simp;omega
  refine⟨?_,this⟩
  unfold dig
  rw[this]
  simp
  omega
theorem wI:∀ n:Nat,Lib.decDigits n≠[]∧(Lib.decDigits n).all dig=true∧(1≤n→(Lib.decDigits n).head?≠some 48)∧fF 0 (Lib.decDigits n)=n∧(n<10→(Lib.decDigits n).length=1):=by
  intro n
  induction n using Nat.strongRecOn with
  | _ n ih=>
    by_cases h:n<10
    · rw[Lib.decDigits_one h]
      obtain⟨h1,h2⟩:=xEc n h;refine⟨by simp,by rw[List.all_cons,h1];rfl,fun hn e=>?_,?_,fun _=>rfl⟩
      · rw[List.head?_cons] at e
        have:=congrArg UInt8.toNat (Option.some.inj e);rw[h2] at this;have:(48:UInt8).toNat=48:=rfl
        omega
      · unfold fF
        simp only[List.foldl_cons,List.foldl_nil,h2]
        omega
    · obtain⟨i1,i2,i3,i4,_⟩:=ih (n / 10) (by omega)
      obtain⟨h1,h2⟩:=xEc (n % 10) (by omega);rw[Lib.decDigits,dif_neg h];refine⟨by simp,by rw[List.all_append,i2,List.all_cons,h1];rfl,fun _=>?_,?_,fun hn=>absurd hn h⟩
      · rw[List.head?_append]
        cases hh:(Lib.decDigits (n / 10)).head? with
        | none=>rw[List.head?_eq_none_iff] at hh;contradiction
        | some c=>
          have:=i3 (by omega);rw[hh] at this
          simpa using this
      · rw[xAu,i4,h2]
        omega
theorem lL {n:Int} (h:0≤n):mU (fI n)=true∧((fF 0 (fI n):Nat):Int)=n:=by
  obtain⟨h1,h2,h3,h4,h5⟩:=wI n.toNat
  unfold fI
  refine⟨?_,by rw[h4];omega⟩
  unfold mU
  have e1:(Lib.decDigits n.toNat).isEmpty=false:=by cases hd:Lib.decDigits n.toNat with | nil=>contradiction | cons _ _=>rfl
  rw[e1,h2]
  by_cases h0:1≤n.toNat
  · have:=h3 h0
    have e2:((Lib.decDigits n.toNat).head? != some 48)=true:=by simpa using this
    rw[e2]
    rfl
  · rw[h5 (by omega)]
    simp
theorem jK {n:Int} (h:0≤n) (h9:n≤999):(fI n).length≤9:=by
  unfold fI
  have:∀ m:Nat,m≤999→(Lib.decDigits m).length≤3:=by
    intro m hm
    by_cases h1:m<10
    · rw[Lib.decDigits_one h1,List.length_singleton];omega
    · rw[Lib.decDigits,dif_neg h1,List.length_append,List.length_singleton]
      by_cases h2:m / 10<10
      · rw[Lib.decDigits_one h2,List.length_singleton];omega
      · rw[Lib.decDigits,dif_neg h2,List.length_append,List.length_singleton,Lib.decDigits_one (by omega),List.length_singleton];omega
  have:=this n.toNat (by omega)
  omega
theorem cO (n:Int):∀ c∈fI n,c≠32:=by
  obtain⟨_,h2,_⟩:=wI n.toNat;intro c hc e;have:=List.all_eq_true.1 h2 c hc;rw[e] at this;exact absurd this (by decide)
theorem lA {c:UInt8}:∀ {p:List UInt8},(∀ x∈p,x≠c)→bU c p=[p]
  | [],_=>rfl
  | b::p,h=>by
    rw[bU,if_neg (h b (by simp)),lA (fun x hx=>h x (by simp [hx]))]
theorem eN {c:UInt8}:∀ {p:List UInt8} (q:List UInt8),(∀ x∈p,x≠c)→bU c (p++c::q)=p::bU c q
  | [],q,_=>by rw[List.nil_append,bU,if_pos rfl]
  | b::p,q,h=>by
    rw[List.cons_append,bU,if_neg (h b (by simp)),eN q (fun x hx=>h x (by simp [hx]))]
def rJ (c:UInt8):List (List UInt8)→List UInt8
  | []=>[]
  | [x]=>x
  | x::y::r=>x++c::rJ c (y::r)
theorem xDw (c:UInt8):∀ l:List UInt8,rJ c (bU c l)=l
  | []=>rfl
  | b::l=>by
    have ih:=xDw c l;have hne:=uM c l
    by_cases h:b=c
    · rw[bU,if_pos h]
      cases hc:bU c l with
      | nil=>contradiction
      | cons x r=>rw[hc] at ih;rw[rJ,ih,h];rfl
    · rw[bU,if_neg h]
      cases hc:bU c l with
      | nil=>contradiction
      | cons x r=>
        rw[hc] at ih
        cases r with
        | nil=>rw[rJ] at ih ⊢;rw[ih]
        | cons y r=>rw[rJ] at ih ⊢;rw[List.cons_append,ih]
end Go.Proofs.YtghihmkhdhjhiaaGreatDoor
namespace Go.Proofs.YtghihmkhdhjhiaaGreatDoor
set_option linter.unusedVariables false
set_option linter.unusedSimpArgs false
theorem xAd (c:UInt8):∀ l:List UInt8,∀ x∈bU c l,x.length≤l.length
  | [],x,hx=>by
    rw[bU,List.mem_singleton] at hx;rw[hx];exact Nat.le_refl _
  | b::l,x,hx=>by
    have ih:=xAd c l;rw[List.length_cons]
    by_cases h:b=c
    · rw[bU,if_pos h] at hx
      rcases List.mem_cons.1 hx with rfl | hx
      · exact Nat.zero_le _
      · have:=ih x hx;omega
    · rw[bU,if_neg h] at hx
      cases hc:bU c l with
      | nil=>exact absurd hc (uM c l)
      | cons y r=>
        rw[hc] at hx ih
        rcases List.mem_cons.1 hx with rfl | hx
        · have:=ih y (by simp);rw[List.length_cons];omega
        · have:=ih x (by simp [hx]);omega
end Go.Proofs.YtghihmkhdhjhiaaGreatDoor
namespace Go.Proofs.YtghihmkhdhjhiaaGreatDoor
set_option linter.unusedVariables false
set_option linter.unusedSimpArgs false
def bR (w:List UInt8):Int:=if w=[99,104,111,111,115,101] then 1 else if w=[114,101,109,111,118,101] then 2 else if w=[101,109,112,116,121] then 3 else 0
def lT (k:Int):List UInt8:=if k=1 then [99,104,111,111,115,101] else if k=2 then [114,101,109,111,118,101] else [101,109,112,116,121]
theorem wJ {w:List UInt8} (h1:w≠[99,104,111,111,115,101]) (h2:w≠[114,101,109,111,118,101]) (h3:w≠[101,109,112,116,121]):bR w=0:=by
  unfold bR
  rw[if_neg h1,if_neg h2,if_neg h3]
theorem tE (w:List UInt8):bR w=0∨(1≤bR w∧bR w≤3∧lT (bR w)=w):=by
  by_cases h1:w=[99,104,111,111,115,101]
  · subst h1;exact .inr (by decide)
  by_cases h2:w=[114,101,109,111,118,101]
  · subst h2;exact .inr (by decide)
  by_cases h3:w=[101,109,112,116,121]
  · subst h3;exact .inr (by decide)
  exact .inl (wJ h1 h2 h3)
theorem uU:∀ k:Int,1≤k→k≤3→bR (lT k)=k∧∀ c∈lT k,c≠32:=by
  intro k h1 h2
  rcases(show k=1∨k=2∨k=3 by omega) with h | h | h<;>subst h<;>decide
theorem xEb (w:List UInt8):vU [qW [99,104,111,111,115,101],qW [114,101,109,111,118,101],qW [101,109,112,116,121]] (qW w)=some (bR w - 1):=by
  by_cases h1:w=[99,104,111,111,115,101]
  · subst h1;unfold vU;simp only[qR,pT];rfl
  by_cases h2:w=[114,101,109,111,118,101]
  · subst h2;unfold vU;simp only[qR,pT];rfl
  by_cases h3:w=[101,109,112,116,121]
  · subst h3;unfold vU;simp only[qR,pT];rfl
  rw[wJ h1 h2 h3]
  unfold vU
  have e:∀ u:List UInt8,w≠u→(w==u)=false:=fun u h=>by rw[beq_eq_false_iff_ne];exact h
  simp only[qR,pT,e _ h1,e _ h2,e _ h3,Bool.false_eq_true,if_false,thn_nx]
  rfl
def wU:Line×Int:=(⟨0,0,0,0⟩,5)
def jA (x:List UInt8):Prop:=mU x=true∧x.length≤9∧fF 0 x≤999
instance (x:List UInt8):Decidable (jA x):=by unfold jA;infer_instance
def xEl (ws:List (List UInt8)):Line×Int:=
  match ws with
  | [w,x]=>if bR w=3∧jA x then (⟨3,(fF 0 x:Nat),0,0⟩,0) else wU
  | [w,x,y]=>if bR w=1∧jA x∧jA y then (⟨1,(fF 0 x:Nat),(fF 0 y:Nat),0⟩,0) else wU
  | [w,x,y,z]=>if bR w=2∧jA x∧jA y∧jA z then (⟨2,(fF 0 x:Nat),(fF 0 y:Nat),(fF 0 z:Nat)⟩,0) else wU
  | _=>wU
theorem xGb (w x:List UInt8):xEl [w,x]=if bR w=3∧jA x then (⟨3,(fF 0 x:Nat),0,0⟩,0) else wU:=rfl
theorem xGk (w x y:List UInt8):xEl [w,x,y]=if bR w=1∧jA x∧jA y then (⟨1,(fF 0 x:Nat),(fF 0 y:Nat),0⟩,0) else wU:=rfl
theorem xFz (w x y z:List UInt8):xEl [w,x,y,z]=if bR w=2∧jA x∧jA y∧jA z then (⟨2,(fF 0 x:Nat),(fF 0 y:Nat),(fF 0 z:Nat)⟩,0) else wU:=rfl
theorem xPi {w:List UInt8} (r:List (List UInt8)) (h:bR w=0):xEl (w::r)=wU:=by
  match r with
  | []=>rfl
  | [x]=>rw[xGb,if_neg (by omega)]
  | [x,y]=>rw[xGk,if_neg (by omega)]
  | [x,y,z]=>rw[xFz,if_neg (by omega)]
  | x::y::z::u::r=>rfl
theorem xEy {n:Int} (h:0≤n∧n≤999):in9 n=true:=by
  unfold in9
  simp only[Bool.and_eq_true,decide_eq_true_eq];exact h
theorem nS {k a b c:Int} (h:cK ⟨k,a,b,c⟩=true):(1≤k∧k≤3)∧(0≤a∧a≤999)∧(0≤b∧b≤999)∧(0≤c∧c≤999)∧(k≠2→c=0)∧(k=3→b=0):=by
  obtain⟨h1,h2,h3,h4⟩:=rC h;have h1':k=1∨k=2∨k=3:=h1;refine⟨by omega,gP h2,gP h3,gP h4,fun hk=>?_,fun hk=>?_⟩
  · unfold cK at h
    simp only[Bool.and_eq_true,Bool.or_eq_true,beq_iff_eq,bne_iff_ne] at h;have:=h.1.2
    omega
  · unfold cK at h
    simp only[Bool.and_eq_true,Bool.or_eq_true,beq_iff_eq,bne_iff_ne] at h;have:=h.2
    omega
theorem jN {k a b c:Int} (h1:1≤k∧k≤3) (h2:0≤a∧a≤999) (h3:0≤b∧b≤999) (h4:0≤c∧c≤999) (h5:k≠2→c=0) (h6:k=3→b=0):cK ⟨k,a,b,c⟩=true:=by
  unfold cK
  simp only[Bool.and_eq_true,Bool.or_eq_true,beq_iff_eq,bne_iff_ne];exact⟨⟨⟨⟨⟨by omega,xEy h2⟩,xEy h3⟩,xEy h4⟩,by omega⟩,by omega⟩
theorem lK {k a b c:Int} (h:1≤k∧k≤3):bG ⟨k,a,b,c⟩=lT k++32::fI a++(if k≤2 then 32::fI b else [])++(if k=2 then 32::fI c else []):=by
  rcases(show k=1∨k=2∨k=3 by omega) with h | h | h<;>subst h<;>simp [bG,lT]
theorem xHl (x:Line):(bG x==([]:List UInt8))=false:=by
  unfold bG
  split
  · rfl
  · split<;>rfl
theorem xFj (d:Line) (l:List UInt8):(xZ (bV d) fun z201=>
 zW (σ:=Bool) (
  if (sEq z201 (qW [])) then  some (.nx true) else  some (.nx (!sEq z201 (qW l)))) fun s209=>
 if s209 then
  some wU
 else
  some (d,0))=some (if cK d=true∧bG d=l then (d,0) else wU):=by
  rw[lG,bnd_s,pT,pT]
  cases h:cK d with
  | false=>
    rw[show(if false=true then bG d else [])=([]:List UInt8) from rfl,if_pos (show(([]:List UInt8)==[])=true from rfl),thn_nx,if_pos rfl,if_neg (fun h=>by cases h.1)]
  | true=>
    rw[show(if true=true then bG d else [])=bG d from rfl,xHl d,if_neg (by simp),thn_nx]
    by_cases he:bG d=l
    · rw[he,beq_self_eq_true,if_neg (by simp),if_pos ⟨rfl,rfl⟩]
    · have:(bG d==l)=false:=by rw[beq_eq_false_iff_ne];exact he
      rw[this,if_pos (by rfl),if_neg (fun h=>he h.2)]
theorem wL {ρ:Type} {ws:List (List UInt8)} (hw:∀ x∈ws,x.length≤1048576) (k:Nat):∃ a,(if decide ((k:Int)<((ws.map qW).length:Int))=true then xZ (ix (ws.map qW) (k:Int)) fun z161=>xZ (vT z161) fun z169=>some (Out.nx (ρ:=ρ) z169) else some (.nx 0))=some (.nx a)∧(ws.length≤k→a=0)∧∀ x,ws[k]?=some x→vT (qW x)=some a∧(0≤a→fI a=x):=by
  by_cases h:k<ws.length
  · have hg:ws[k]?=some ws[k]:=List.getElem?_eq_getElem h
    obtain⟨n,h1,h2⟩:=tS (hw _ (List.mem_of_getElem? hg));refine⟨n,?_,fun h3=>absurd h3 (by omega),fun x hx=>?_⟩
    · have hi:ix (ws.map qW) (k:Int)=some (qW ws[k]):=vH (by rw[List.getElem?_map,hg];rfl)
      rw[if_pos (decide_eq_true (by rw[List.length_map];omega)),hi,bnd_s,h1,bnd_s]
    · rw[hg] at hx
      obtain rfl:=Option.some.inj hx;exact⟨h1,h2⟩
  · refine⟨0,?_,fun _=>rfl,fun x hx=>?_⟩
    · rw[if_neg (by rw[List.length_map];simp;omega)]
    · rw[List.getElem?_eq_none (by omega)] at hx
      cases hx
theorem xHx {w:List UInt8} {r:List (List UInt8)} {l:List UInt8} {a b c:Int} (hc:bU 32 l=w::r) (ha0:(w::r).length≤1→a=0) (hb0:(w::r).length≤2→b=0) (hc0:(w::r).length≤3→c=0)
    (ha:∀ x,(w::r)[1]?=some x→vT (qW x)=some a∧(0≤a→fI a=x)) (hb:∀ x,(w::r)[2]?=some x→vT (qW x)=some b∧(0≤b→fI b=x)) (hcc:∀ x,(w::r)[3]?=some x→vT (qW x)=some c∧(0≤c→fI c=x)) :
    (if cK ⟨bR w,a,b,c⟩=true∧bG ⟨bR w,a,b,c⟩=l then ((⟨bR w,a,b,c⟩:Line),(0:Int)) else wU)=xEl (w::r):=by
  have hj:=xDw 32 l;rw[hc] at hj
  by_cases hC:cK ⟨bR w,a,b,c⟩=true∧bG ⟨bR w,a,b,c⟩=l
  · rw[if_pos hC]
    obtain⟨hB,hT⟩:=hC;obtain⟨k1,a1,b1,c1,c2,b3⟩:=nS hB;obtain⟨w1,w2⟩:=uU (bR w) k1.1 k1.2;have na:=cO a;have nb:=cO b;have nc:=cO c;rw[lK k1] at hT;obtain⟨ia,va⟩:=lL a1.1;obtain⟨ib,vb⟩:=lL b1.1;obtain⟨ic,vc⟩:=lL c1.1;have qa:jA (fI a):=⟨ia,jK a1.1 a1.2,by omega⟩;have qb:jA (fI b):=⟨ib,jK b1.1 b1.2,by omega⟩;have qc:jA (fI c):=⟨ic,jK c1.1 c1.2,by omega⟩
    by_cases h3:bR w=3
    · rw[if_neg (by omega),if_neg (by omega),List.append_nil,List.append_nil] at hT
      rw[← hT,eN _ w2,lA na] at hc;obtain⟨e1,e2⟩:=List.cons.inj hc;subst e2;rw[xGb,if_pos ⟨h3,qa⟩,va,h3,b3 h3,c2 (by omega)]
    · by_cases h2:bR w=2
      · rw[if_pos (by omega),if_pos h2,List.append_assoc,List.append_assoc,List.cons_append,List.cons_append] at hT
        rw[← hT,eN _ w2,eN _ na,eN _ nb,lA nc] at hc;obtain⟨e1,e2⟩:=List.cons.inj hc;subst e2;rw[xFz,if_pos ⟨h2,qa,qb,qc⟩,va,vb,vc,h2]
      · have h1:bR w=1:=by omega
        rw[if_pos (by omega),if_neg h2,List.append_nil,List.append_assoc,List.cons_append] at hT;rw[← hT,eN _ w2,eN _ na,lA nb] at hc;obtain⟨e1,e2⟩:=List.cons.inj hc;subst e2;rw[xGk,if_pos ⟨h1,qa,qb⟩,va,vb,h1,c2 (by omega)]
  · rw[if_neg hC]
    rcases tE w with h0 | ⟨k1,k2,k3⟩
    · rw[xPi r h0]
    · match r with
      | []=>rfl
      | [x]=>
        rw[xGb]
        by_cases h7:bR w=3∧jA x
        · exfalso
          obtain⟨h8,h9,h10,h11⟩:=h7;have e2:=hb0 (by simp);have e3:=hc0 (by simp);obtain⟨r1,r2⟩:=ha x rfl;rw[dK h9 h10] at r1;obtain rfl:=Option.some.inj r1;subst e2 e3;refine hC ⟨jN ⟨k1,k2⟩ (by omega) (by decide) (by decide) (fun _=>rfl) (fun _=>rfl),?_⟩;rw[lK ⟨k1,k2⟩,if_neg (by omega),if_neg (by omega),List.append_nil,List.append_nil,k3,r2 (by omega),← hj]
          rfl
        · rw[if_neg h7]
      | [x,y]=>
        rw[xGk]
        by_cases h7:bR w=1∧jA x∧jA y
        · exfalso
          obtain⟨h8,⟨h9,h10,h11⟩,h12,h13,h14⟩:=h7;have e3:=hc0 (by simp);obtain⟨r1,r2⟩:=ha x rfl;rw[dK h9 h10] at r1;obtain rfl:=Option.some.inj r1;obtain⟨r3,r4⟩:=hb y rfl;rw[dK h12 h13] at r3;obtain rfl:=Option.some.inj r3;subst e3;refine hC ⟨jN ⟨k1,k2⟩ (by omega) (by omega) (by decide) (fun _=>rfl) (fun _=>by omega),?_⟩;rw[lK ⟨k1,k2⟩,if_pos (by omega),if_neg (by omega),List.append_nil,k3,r2 (by omega),r4 (by omega),← hj]
          simp [rJ]
        · rw[if_neg h7]
      | [x,y,z]=>
        rw[xFz]
        by_cases h7:bR w=2∧jA x∧jA y∧jA z
        · exfalso
          obtain⟨h8,⟨h9,h10,h11⟩,⟨h12,h13,h14⟩,h15,h16,h17⟩:=h7;obtain⟨r1,r2⟩:=ha x rfl;rw[dK h9 h10] at r1;obtain rfl:=Option.some.inj r1;obtain⟨r3,r4⟩:=hb y rfl;rw[dK h12 h13] at r3;obtain rfl:=Option.some.inj r3;obtain⟨r5,r6⟩:=hcc z rfl;rw[dK h15 h16] at r5;obtain rfl:=Option.some.inj r5;refine hC ⟨jN ⟨k1,k2⟩ (by omega) (by omega) (by omega) (fun _=>by omega) (fun _=>by omega),?_⟩;rw[lK ⟨k1,k2⟩,if_pos (by omega),if_pos h8,k3,r2 (by omega),r4 (by omega),r6 (by omega),← hj]
          simp [rJ]
        · rw[if_neg h7]
      | x::y::z::u::r=>rfl
theorem yO {l:List UInt8} (hl:l.length≤1048576):dC (qW l)=some (xEl (bU 32 l)):=by
  unfold dC
  rw[xCe hl,bnd_s]
  unfold dM
  have hm:=xAd 32 l
  cases hc:bU 32 l with
  | nil=>exact absurd hc (uM 32 l)
  | cons w r=>
    rw[hc] at hm;obtain⟨a,a1,a2,a3⟩:=wL (ρ:=Line×Int) (ws:=w::r) (fun x hx=>by have:=hm x hx;omega) 1;obtain⟨b,b1,b2,b3⟩:=wL (ρ:=Line×Int) (ws:=w::r) (fun x hx=>by have:=hm x hx;omega) 2;obtain⟨c,c1,c2,c3⟩:=wL (ρ:=Line×Int) (ws:=w::r) (fun x hx=>by have:=hm x hx;omega) 3
    have hk: -9223372036854775808≤bR w - 1+1∧bR w - 1+1≤9223372036854775807:=by
      rcases tE w with h | ⟨h1,h2,_⟩<;>omega
    rw[show ix ((w::r).map qW) 0=some (qW w) from rfl,bnd_s,bnd_s,xEb,bnd_s,zT hk.1 hk.2,bnd_s,show bR w - 1+1=bR w by omega];have a1':(if decide ((1:Int)<(((w::r).map qW).length:Int))=true then xZ (ix ((w::r).map qW) 1) fun z166=>xZ (vT z166) fun z174=>some (Out.nx (ρ:=Line×Int) z174) else some (.nx 0))=some (.nx a):=a1;have b1':(if decide ((2:Int)<(((w::r).map qW).length:Int))=true then xZ (ix ((w::r).map qW) 2) fun z195=>xZ (vT z195) fun z203=>some (Out.nx (ρ:=Line×Int) z203) else some (.nx 0))=some (.nx b):=b1;have c1':(if decide ((3:Int)<(((w::r).map qW).length:Int))=true then xZ (ix ((w::r).map qW) 3) fun z224=>xZ (vT z224) fun z232=>some (Out.nx (ρ:=Line×Int) z232) else some (.nx 0))=some (.nx c):=c1;rw[a1',thn_nx,b1',thn_nx,c1',thn_nx];have hlast:=xFj ⟨bR w,a,b,c⟩ l;have hr:=xHx hc a2 b2 c2 a3 b3 c3;rw[hr] at hlast;exact hlast
end Go.Proofs.YtghihmkhdhjhiaaGreatDoor
namespace Go.Proofs.YtghihmkhdhjhiaaGreatDoor
set_option linter.unusedVariables false
set_option linter.unusedSimpArgs false
theorem n9 {n:Int} (h:0≤n∧n≤999):jA (fI n)∧((fF 0 (fI n):Nat):Int)=n:=by
  obtain⟨h1,h2⟩:=lL h.1;exact⟨⟨h1,jK h.1 h.2,by omega⟩,h2⟩
theorem wG {n:Int} (h:0≤n):∀ c∈fI n,c≠10:=fun c hc e=>by
  have h1:=(lL h).1
  unfold mU at h1
  simp only[Bool.and_eq_true] at h1;have h2:=List.all_eq_true.1 h1.1.2 c hc;subst e;exact absurd h2 (by decide)
theorem xJf {l:Line} (h:cK l=true):xEl (bU 32 (bG l))=(l,0):=by
  obtain⟨k,a,b,c⟩:=l;obtain⟨hk,ha,hb,hc,h2,h3⟩:=nS h;obtain⟨a1,a2⟩:=n9 ha;obtain⟨b1,b2⟩:=n9 hb;obtain⟨c1,c2⟩:=n9 hc;obtain⟨k1,k2⟩:=uU k hk.1 hk.2;rw[lK hk]
  have:k=1∨k=2∨k=3:=by omega
  rcases this with rfl | rfl | rfl
  · have e:lT 1++32::fI a++(if (1:Int)≤2 then 32::fI b else [])++(if (1:Int)=2 then 32::fI c else [])=lT 1++32::(fI a++32::fI b):=by simp
    obtain rfl:=h2 (by decide);rw[e,eN _ k2,eN _ (cO a),lA (cO b),xGk,if_pos ⟨k1,a1,b1⟩,a2,b2]
  · have e:lT 2++32::fI a++(if (2:Int)≤2 then 32::fI b else [])++(if (2:Int)=2 then 32::fI c else [])=lT 2++32::(fI a++32::(fI b++32::fI c)):=by simp
    rw[e,eN _ k2,eN _ (cO a),eN _ (cO b),lA (cO c),xFz,if_pos ⟨k1,a1,b1,c1⟩,a2,b2,c2]
  · have e:lT 3++32::fI a++(if (3:Int)≤2 then 32::fI b else [])++(if (3:Int)=2 then 32::fI c else [])=lT 3++32::fI a:=by simp
    obtain rfl:=h2 (by decide);obtain rfl:=h3 rfl;rw[e,eN _ k2,lA (cO a),xGb,if_pos ⟨k1,a1⟩,a2]
theorem xEu:∀ k:Int,k=1∨k=2∨k=3→(∀ c∈lT k,c≠10)∧(lT k).length≤6:=by
  rintro k (rfl | rfl | rfl)<;>decide
theorem mK {l:Line} (h:cK l=true):(∀ c∈bG l,c≠10)∧(bG l).length≤36:=by
  obtain⟨k,a,b,c⟩:=l;obtain⟨hk,ha,hb,hc,h2,h3⟩:=nS h;obtain⟨w1,w2⟩:=xEu k (by omega);have la:=jK ha.1 ha.2;have lb:=jK hb.1 hb.2;have lc:=jK hc.1 hc.2;rw[lK hk];refine⟨fun z hz=>?_,?_⟩
  · simp only[List.mem_append,List.mem_cons] at hz
    rcases hz with ((hz | rfl | hz) | hz) | hz
    · exact w1 z hz
    · decide
    · exact wG ha.1 z hz
    · split at hz
      · rcases List.mem_cons.1 hz with rfl | hz
        · decide
        · exact wG hb.1 z hz
      · cases hz
    · split at hz
      · rcases List.mem_cons.1 hz with rfl | hz
        · decide
        · exact wG hc.1 z hz
      · cases hz
  · simp only[List.length_append,List.length_cons]
    split<;>split<;>simp only[List.length_cons,List.length_nil]<;>omega
def rX:List Line→List UInt8
  | []=>[]
  | [l]=>bG l
  | l::m::r=>bG l++10::rX (m::r)
theorem xGl:∀ {L:List Line},L≠[]→nA L=rX L++[10]
  | [],h=>absurd rfl h
  | [l],_=>by simp [nA,rX]
  | l::m::r,_=>by
    have ih:=xGl (L:=m::r) (by simp)
    have e:nA (l::m::r)=bG l++[10]++nA (m::r):=by simp [nA]
    rw[e,ih,rX]
    simp
theorem xDr:∀ {L:List Line},(∀ l∈L,cK l=true)→L≠[]→bU 10 (rX L)=L.map bG
  | [],_,h=>absurd rfl h
  | [l],hB,_=>by rw[rX,lA (mK (hB l (by simp))).1];rfl
  | l::m::r,hB,_=>by
    rw[rX,eN _ (mK (hB l (by simp))).1,xDr (L:=m::r) (fun z hz=>hB z (List.mem_cons_of_mem _ hz)) (by simp)]
    rfl
theorem xDk:∀ {L:List Line},(∀ l∈L,cK l=true)→(nA L).length≤37*L.length
  | [],_=>by simp [nA]
  | l::r,hB=>by
    have h1:=(mK (hB l (by simp))).2;have h2:=xDk (L:=r) (fun z hz=>hB z (by simp [hz]))
    have e:nA (l::r)=bG l++[10]++nA r:=by simp [nA]
    rw[e,List.length_append,List.length_append,List.length_singleton,List.length_cons]
    omega
theorem xAn : ∀ (L : List Line) (k : Nat) (s : List Line), (∀ l ∈ L, cK l = true) → s.length + L.length ≤ 100000 → qR (σ := (List Line)) (ρ := (List Line) × Int) (fun (k65 : Nat) (x67 : ByteArray) (s59 : (List Line)) =>
      xZ (dC x67) fun z74=>
      if (z74.2 != 0) then
       some (.ret ([],5))
      else
       xZ (ap s59 ([(Line.mk z74.1.kind z74.1.var z74.1.value z74.1.con)])) fun z87=>
       some (.go z87)) ((L.map bG).map qW) k s=some (.nx (s++L))
  | [],k,s,_,_=>by simp [qR]
  | l::L,k,s,hB,hl=>by
    have h1:=hB l (by simp);have h2:=(mK h1).2;rw[List.length_cons] at hl
    have h3:dC (qW (bG l))=some (l,0):=by rw[yO (by omega),xJf h1]
    rw[List.map_cons,List.map_cons,aB (s':=s++[l]) (by
      rw[h3,bnd_s,if_neg (by simp),bM (by simp only[List.length_cons,List.length_nil];omega),bnd_s]),xAn L (k+1) _ (fun z hz=>hB z (by simp [hz])) (by simp only[List.length_append,List.length_singleton];omega)]
    simp
theorem xMo {t:List UInt8} (h:t.length≤1000000):zH (qW (t++[10])) (qW [10])=some true:=by
  unfold zH
  have e1:(qW (t++[10])).size=t.length+1:=by rw[bY];simp
  have e2:(qW [10]).size=1:=bY _
  have h3:ck (((qW (t++[10])).size:Int) - ((qW [10]).size:Int))=some (t.length:Int):=by rw[e1,e2];have:=zT (x:=(t.length:Int)) (by omega) (by omega);rw[← this];congr 1;omega
  have h4:ssl (qW (t++[10])) (t.length:Int) (((qW (t++[10])).size:Nat):Int)=some (qW [10]):=by
    rw[e1,xMs (by omega) (by simp)]
    congr 2
    rw[List.take_of_length_le (by simp),List.drop_append_of_le_length (Nat.le_refl _),List.drop_length]
    rfl
  rw[if_pos (by rw[e1,e2];simp;omega),h3,bnd_s,h4,bnd_s,xDs,thn_nx]
theorem xNe {t:List UInt8} (h:t.length≤1000000):cC (qW (t++[10])) (qW [10])=some (qW t):=by
  unfold cC kL
  have e1:(qW (t++[10])).size=t.length+1:=by rw[bY];simp
  have e2:(qW [10]).size=1:=bY _
  have h3:ck (((qW (t++[10])).size:Int) - ((qW [10]).size:Int))=some (t.length:Int):=by rw[e1,e2];have:=zT (x:=(t.length:Int)) (by omega) (by omega);rw[← this];congr 1;omega
  have h4:ssl (qW (t++[10])) 0 (t.length:Int)=some (qW t):=by
    have:=xMs (l:=t++[10]) (i:=0) (j:=t.length) (by omega) (by simp);rw[List.drop_zero,List.take_append_of_le_length (Nat.le_refl _),List.take_length] at this;exact this
  rw[xMo h,bnd_s,if_pos rfl,h3,bnd_s,h4,bnd_s,bnd_s]
theorem xLp {L:List Line} (hB:∀ l∈L,cK l=true) (hl:L.length≤4000) (hne:L≠[]):bN (qW (nA L))=some (L,0):=by
  have h1:=xDk hB;have h2:=xGl hne
  have h3:(rX L).length≤1000000:=by rw[h2,List.length_append] at h1;omega
  have h4:bS (qW (rX L)) (qW [10])=some ((L.map bG).map qW):=by rw[xCe (by omega),xDr hB hne]
  have h5:sEq (qW (nA L)) (qW [])=false:=by rw[pT,h2];simp
  have h6:((qW (nA L)).size:Int)≤160000:=by rw[bY];omega
  unfold bN
  rw[if_neg (by simpa using h6),h5,if_neg (by simp),h2,xNe h3,bnd_s,h4,bnd_s,if_neg (by simp;omega),xAn L 0 [] hB (by simp only[List.length_nil];omega),thn_nx]
  unfold eM
  rw[xMo h3,bnd_s,bnd_s,if_neg (by simp)]
  rfl
end Go.Proofs.YtghihmkhdhjhiaaGreatDoor
