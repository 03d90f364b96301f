import Derived.Test.YtlommebgedmjdaaGreatDoorM55
import Derived.Test.YtlommebgedmjdaaGreatDoorM1
import Derived.Laws.Strings
import Derived.Lib.SplitLaws
import Derived.Test.YtlommebgedmjdaaGreatDoorS2
import Derived.Lib.IndexLaws
import Derived.Test.YtlommebgedmjdaaGreatDoorY
namespace Go.Proofs.YtlommebgedmjdaaGreatDoor
set_option linter.unusedVariables false
set_option linter.unusedSimpArgs false
theorem aC (l:List UInt8):(oE l).size=l.length:=by simp [oE,ByteArray.size]
theorem xSf (a b:List UInt8):oE a++oE b=oE (a++b):=by
  apply ByteArray.ext
  simp [oE]
theorem xCo {a b:List UInt8} (h:a.length+b.length≤9223372036854775807):sK (oE a) (oE b)=some (oE (a++b)):=by
  unfold sK
  rw[aC,aC,if_pos h,xSf]
theorem xMz (n:Nat) (h:n≤9223372036854775807):(Lib.decDigits n).length≤21:=by
  have:=Lib.itoa_length_le (n:Int) (by omega) (by omega)
  rwa [Lib.itoa_nonneg] at this
def num (n:Int):List UInt8:=Lib.decDigits n.toNat
theorem nS {n:Int} (h:n≤9223372036854775807):(num n).length≤21:=xMz _ (by omega)
theorem uU {n:Int} (h0:0≤n):gW n=some (oE (num n)):=by
  unfold gW cB
  rw[if_pos rfl,bnd_s]
  have:Lib.itoa n=num n:=by
    unfold Lib.itoa num
    rw[if_neg (by omega)]
  rw[this]
  rfl
theorem xKk (a:ByteArray):sEq a a=true:=by simp [sEq]
theorem uA (a b c:Int):kI a b c=some (decide (b≤a) && decide (a≤c)):=by
  unfold kI
  by_cases h:b≤a<;>simp [h]
theorem xMy (l:List Int) (p:Int→Bool) (f:Int→Option Bool) (hf:∀ x∈l,f x=some (p x)):qA l f=some (l.any p):=by
  obtain⟨i,h1,h2⟩:=rD l p f hf;have h3:qY l f=some i:=h1
  unfold qA
  rw[h3,bnd_s,h2]
theorem xLm {α:Type} (l:List α) (p:α→Bool):(l.any fun a=>!p a) = !(l.all p):=by rw[List.all_eq_not_any_not,Bool.not_not]
theorem xKi (T:Int) (l:List Int) (n:Int) (hT:1≤T∧T≤1000000):vS T l n=some (decide ((l.length:Int)=n) && l.all fun x=>decide (0≤x) && decide (x≤T - 1)):=by
  unfold vS
  have h:∀ x:Int,bK x T=some (!(decide (0≤x) && decide (x≤T - 1))):=fun x=>by
    unfold bK eH
    rw[kW (by omega) (by omega),bnd_s,uA,bnd_s,bnd_s]
  by_cases hl:(l.length:Int)=n
  · rw[if_pos (by simpa using hl),xMy l (fun x=>!(decide (0≤x) && decide (x≤T - 1))) _ (fun x _=>h x),bnd_s,thn_nx,xLm,Bool.not_not]
    simp [hl]
  · rw[if_neg (by simpa using hl),thn_nx]
    simp [hl]
theorem xCv (a b:List UInt8):sEq (oE a) (oE b)=(a==b):=by
  unfold sEq
  rw[ByteArray.toList_eq,ByteArray.toList_eq]
  rfl
theorem xIk {α ρ:Type} (t:α→List UInt8) (B M:Nat) {b:Nat→α→ByteArray→Option (Ctl ByteArray ρ)}:∀ {l:List α} {k:Nat} {s:List UInt8},(∀ x∈l,(t x).length≤B)→s.length+B*l.length≤M→(∀ j x s,x∈l→s.length+B≤M→b j x (oE s)=some (.go (oE (s++t x))))→oM b l k (oE s)=some (.nx (oE (s++(l.map t).flatten)))
  | [],_,s,_,_,_=>by simp
  | x::l,k,s,h1,h2,h3=>by
    rw[List.length_cons,Nat.mul_add,Nat.mul_one] at h2;have hx:=h1 x (by simp);rw[qV (h3 k x s (by simp) (by omega)),xIk t B M (l:=l) (k:=k+1) (s:=s++t x) (fun y hy=>h1 y (by simp [hy])) (by rw[List.length_append];omega) (fun j y s hy hs=>h3 j y s (by simp [hy]) hs)]
    simp
theorem xGg {α ρ:Type} (t:α→List UInt8) {b:Nat→α→List ByteArray→Option (Ctl (List ByteArray) ρ)}:∀ {l:List α} {k:Nat} {s:List ByteArray},s.length+l.length≤1048576→(∀ j x s,x∈l→s.length≤1048575→b j x s=some (.go (s++[oE (t x)])))→oM b l k s=some (.nx (s++l.map fun x=>oE (t x)))
  | [],_,s,_,_=>by simp
  | x::l,k,s,h2,h3=>by
    rw[List.length_cons] at h2;rw[qV (h3 k x s (by simp) (by omega)),xGg t (l:=l) (k:=k+1) (s:=s++[oE (t x)]) (by rw[List.length_append,List.length_singleton];omega) (fun j y s hy hs=>h3 j y s (by simp [hy]) hs)]
    simp
theorem uS {α:Type} (t:α→List UInt8) (B:Nat):∀ l:List α,(∀ x∈l,(t x).length≤B)→((l.map t).flatten).length≤B*l.length
  | [],_=>by simp
  | x::l,h=>by
    have h1:=h x (by simp);have h2:=uS t B l (fun y hy=>h y (by simp [hy]));rw[List.map_cons,List.flatten_cons,List.length_append,List.length_cons,Nat.mul_add]
    omega
theorem xZq (x:List UInt8) (l:List (List UInt8)) (sep:List UInt8) (B:Nat) (h:∀ y∈l,y.length≤B) (hb:x.length+(B+sep.length)*l.length≤140737488355328) (hl:l.length≤1048576):fQ (oE x::l.map oE) (oE sep)=some (oE (x++(l.map fun y=>sep++y).flatten)):=by
  have e:xGt (oE x::l.map oE) (oE sep)=x++(l.map fun y=>sep++y).flatten:=by
    unfold xGt
    rw[List.map_cons,List.map_map,Lib.join_cons]
    unfold Lib.joinTail
    rw[List.map_map]
    rfl
  unfold fQ
  rw[e];have h2:=uS (fun y=>sep++y) (B+sep.length) l (fun y hy=>by have:=h y hy;rw[List.length_append];omega);rw[if_pos ⟨by rw[List.length_cons,List.length_map];omega,by rw[List.length_append];omega⟩]
  rfl
end Go.Proofs.YtlommebgedmjdaaGreatDoor
namespace Go.Proofs.YtlommebgedmjdaaGreatDoor
set_option linter.unusedVariables false
set_option linter.unusedSimpArgs false
def aK (c:UInt8):List UInt8→List (List UInt8)
  | []=>[[]]
  | b::l=>if b=c then []::aK c l else match aK c l with | []=>[[b]] | x::r=>(b::x)::r
theorem xKg (c:UInt8):∀ l,aK c l≠[]
  | []=>by simp [aK]
  | b::l=>by
    unfold aK
    split
    · simp
    · split<;>simp
theorem xIh (c:UInt8):∀ l:List UInt8,Lib.splitK [c] 0 (l.count c) l=aK c l
  | []=>rfl
  | b::l=>by
    have ih:=xIh c l
    by_cases h:b=c
    · subst h
      have hix:Lib.index (b::l) [b]=0:=by rw[Lib.index];simp [List.isPrefixOf]
      rw[List.count_cons_self,Lib.splitK,hix,aK,if_pos rfl,← ih]
      rfl
    · have hp:([c]:List UInt8).isPrefixOf (b::l)=false:=by simp [List.isPrefixOf,Ne.symm h]
      have hix:Lib.index (b::l) [c]=if Lib.index l [c] == -1 then -1 else Lib.index l [c]+1:=by rw[Lib.index,hp];simp
      rw[List.count_cons_of_ne (by simpa using h),aK,if_neg h,← ih]
      cases hk:l.count c with
      | zero=>rfl
      | succ k=>
        by_cases hm:Lib.index l [c]= -1
        · rw[Lib.splitK,Lib.splitK,hix]
          simp [hm]
        · have hge:=Lib.index_ge l [c]
          obtain⟨j,hj⟩:∃ j:Nat,Lib.index l [c]=j:=⟨(Lib.index l [c]).toNat,by omega⟩
          have h1:¬ (((j:Nat):Int) == -1)=true:=by simp
          have h2:¬ (((j:Nat):Int)+1 == -1)=true:=by simp;omega
          rw[Lib.splitK,Lib.splitK,hix,hj,if_neg h1,if_neg h2,if_neg h1]
          have h3:(((j:Nat):Int)+1).toNat=j+1:=by omega
          rw[h3]
          simp
theorem xIe (c:UInt8) (l:List UInt8):Lib.countB (oE l) (oE [c])=l.count c:=Lib.count_one c l
theorem xQb (c:UInt8) (l:List UInt8):Lib.splitB (oE [c]) 0 (Lib.countB (oE l) (oE [c])) (oE l)=(aK c l).map oE:=by
  have h:=Lib.splitB_data (oE [c]) 0 (Lib.countB (oE l) (oE [c])) (oE l);rw[xIe] at h ⊢;have e:Lib.splitK (oE [c]).data.toList 0 (l.count c) (oE l).data.toList=aK c l:=xIh c l;rw[e] at h;rw[← h,List.map_map]
  have:(oE ∘ fun x:ByteArray=>x.data.toList)=id:=by
    funext x
    apply ByteArray.ext
    simp [oE]
  rw[this,List.map_id]
theorem xKx {c:UInt8} {l:List UInt8} (h:l.length≤1048576):cX (oE l) (oE [c])=some ((aK c l).map oE):=by
  unfold cX
  have h1:(oE l).size=l.length:=aC l
  have h2:Lib.countB (oE l) (oE [c])≤l.length:=by rw[xIe];exact List.count_le_length
  rw[if_pos ⟨by omega,by rw[aC];exact Nat.le_refl 1,by omega⟩,xQb]
theorem xPu {l:List UInt8} {i j:Nat} (h:i≤j) (hj:j≤l.length):ssl (oE l) (i:Int) (j:Int)=some (oE ((l.take j).drop i)):=by
  unfold ssl
  rw[if_pos ⟨by omega,by omega,by rw[aC];omega⟩]
  congr 1
  apply ByteArray.ext
  apply Array.ext'
  rw[ByteArray.data_extract]
  simp [oE,List.drop_take]
theorem xCj (c:UInt8):∀ l:List UInt8,(aK c l).length≤l.length+1
  | []=>by simp [aK]
  | b::l=>by
    have:=xCj c l
    unfold aK
    split
    · rw[List.length_cons,List.length_cons];omega
    · split
      · simp
      · rename_i h;rw[h] at this;simp only[List.length_cons] at this ⊢;omega
end Go.Proofs.YtlommebgedmjdaaGreatDoor
namespace Go.Proofs.YtlommebgedmjdaaGreatDoor
set_option linter.unusedVariables false
set_option linter.unusedSimpArgs false
def dig (c:UInt8):Bool:=decide (48≤c.toNat) && decide (c.toNat≤57)
def tC (s:Nat) (l:List UInt8):Nat:=l.foldl (fun s c=>s*10+(c.toNat - 48)) s
theorem xHy (s:Nat) (l:List UInt8) (c:UInt8):tC s (l++[c])=tC s l*10+(c.toNat - 48):=by unfold tC;rw[List.foldl_append];rfl
def yA (l:List UInt8):Bool:=!l.isEmpty && l.all dig && (l.head? != some 48 || l.length==1)
theorem xUl:∀ l:List UInt8,l≠[]→l.all dig=true→l.head?≠some 48→1≤tC 0 l:=by
  have mono:∀ (l:List UInt8) (s:Nat),1≤s→1≤tC s l:=by
    intro l
    induction l with
    | nil=>intro s h;exact h
    | cons c l ih=>intro s h;exact ih (s*10+(c.toNat - 48)) (by omega)
  intro l h1 h2 h3
  cases l with
  | nil=>contradiction
  | cons c l=>
    have hd:dig c=true:=by simp only[List.all_cons,Bool.and_eq_true] at h2;exact h2.1
    unfold dig at hd
    simp only[Bool.and_eq_true,decide_eq_true_eq] at hd;have hc:c.toNat≠48:=fun e=>h3 (by rw[List.head?_cons];congr 1;exact UInt8.toNat_inj.1 (by rw[e];rfl));exact mono l (0*10+(c.toNat - 48)) (by omega)
theorem xMh {c:UInt8} (h:dig c=true):UInt8.ofNat (48+(c.toNat - 48))=c:=by
  unfold dig at h
  simp only[Bool.and_eq_true,decide_eq_true_eq] at h;rw[show 48+(c.toNat - 48)=c.toNat by omega];exact UInt8.ofNat_toNat
theorem xZk (n:Nat):∀ l:List UInt8,l.length=n→yA l=true→Lib.decDigits (tC 0 l)=l:=by
  induction n with
  | zero=>intro l hl h;rw[List.length_eq_zero_iff] at hl;subst hl;simp [yA] at h
  | succ n ih=>
    intro l hl h
    have hne:l≠[]:=by intro e;subst e;simp at hl
    obtain⟨l',c,rfl⟩:∃ l' c,l=l'++[c]:=⟨l.dropLast,l.getLast hne,(List.dropLast_concat_getLast hne).symm⟩
    unfold yA at h
    simp only[Bool.and_eq_true,List.all_append,List.all_cons,List.all_nil,Bool.and_true] at h;obtain⟨⟨_,h2,h3⟩,h4⟩:=h;rw[xHy];have hc:=h3
    unfold dig at hc
    simp only[Bool.and_eq_true,decide_eq_true_eq] at hc
    by_cases hl':l'=[]
    · subst hl'
      have:tC 0 ([]:List UInt8)=0:=rfl;rw[this,Nat.zero_mul,Nat.zero_add,Lib.decDigits_one (by omega),xMh h3]
      rfl
    · have hh:l'.head?≠some 48:=by
        intro e
        have e2:(l'++[c]).head?=some 48:=by rw[List.head?_append,e];rfl
        have e3:2≤(l'++[c]).length:=by
          rw[List.length_append,List.length_singleton];have:=List.length_pos_iff.2 hl'
          omega
        rw[e2] at h4;simp only[bne_self_eq_false,Bool.false_or,beq_iff_eq] at h4
        omega
      have hp:=xUl l' hl' h2 hh
      have hi:yA l'=true:=by
        unfold yA
        rw[h2]
        have h5:l'.isEmpty=false:=by cases l' with | nil=>contradiction | cons _ _=>rfl
        have h6:(l'.head? != some 48)=true:=by simpa using hh
        rw[h5,h6]
        rfl
      rw[Lib.decDigits,dif_neg (by omega)]
      have e1:(tC 0 l'*10+(c.toNat - 48)) / 10=tC 0 l':=by omega
      have e2:(tC 0 l'*10+(c.toNat - 48)) % 10=c.toNat - 48:=by omega
      rw[e1,e2,ih l' (by rw[List.length_append,List.length_singleton] at hl;omega) hi,xMh h3]
end Go.Proofs.YtlommebgedmjdaaGreatDoor
namespace Go.Proofs.YtlommebgedmjdaaGreatDoor
set_option linter.unusedVariables false
set_option linter.unusedSimpArgs false
theorem xRu (M:Nat) (hM:1000000000≤M):∀ (l:List UInt8) (acc k:Nat),l.all dig=true→acc<10 ^ k→k+l.length≤9→Lib.parseUintM M acc l= .ok (tC acc l)
  | [],acc,k,_,_,_=>rfl
  | c::l,acc,k,h,ha,hk=>by
    simp only[List.all_cons,Bool.and_eq_true] at h;have hd:=h.1
    unfold dig at hd
    simp only[Bool.and_eq_true,decide_eq_true_eq] at hd;rw[List.length_cons] at hk;have h1:10 ^ (k+1)≤10 ^ 9:=Nat.pow_le_pow_right (by decide) (by omega);rw[Nat.pow_succ] at h1
    unfold Lib.parseUintM
    rw[if_pos hd,if_neg (by omega),if_neg (by omega),xRu M hM l _ (k+1) h.2 (by rw[Nat.pow_succ];omega) (by omega)]
    rfl
theorem xOb:∀ (l:List UInt8) (acc k:Nat),l.all dig=true→acc<10 ^ k→tC acc l<10 ^ (k+l.length)
  | [],acc,k,_,ha=>ha
  | c::l,acc,k,h,ha=>by
    simp only[List.all_cons,Bool.and_eq_true] at h;have hd:=h.1
    unfold dig at hd
    simp only[Bool.and_eq_true,decide_eq_true_eq] at hd;have:=xOb l (acc*10+(c.toNat - 48)) (k+1) h.2 (by rw[Nat.pow_succ];omega);rw[List.length_cons,show k+(l.length+1)=k+1+l.length by omega];exact this
theorem xQz {l:List UInt8} (h:yA l=true) (hl:l.length≤9):Lib.parseIntB 64 l= .ok ((tC 0 l:Nat):Int):=by
  have h0:=h
  unfold yA at h
  simp only[Bool.and_eq_true] at h;have hall:=h.1.2
  cases l with
  | nil=>simp at h
  | cons c r=>
    have hd:dig c=true:=by simp only[List.all_cons,Bool.and_eq_true] at hall;exact hall.1
    unfold dig at hd
    simp only[Bool.and_eq_true,decide_eq_true_eq] at hd;have hv:=xOb (c::r) 0 0 hall (by decide);have hp:10 ^ (0+(c::r).length)≤10 ^ 9:=Nat.pow_le_pow_right (by decide) (by omega);rw[Lib.parseIntB_plain 64 c r (by omega) (by omega)]
    unfold Lib.parseUintB
    rw[if_neg (by simp),xRu _ (by decide) (c::r) 0 0 hall (by decide) (by omega)]
    unfold Lib.signlessC
    simp only;rw[if_neg (by omega)]
theorem xXe (l:List UInt8):xH (Lib.intSat 64 l):=by
  unfold Lib.intSat
  split<;>decide
theorem xGv {l:List UInt8} (hl:l.length≤1048576):bH (oE l) 10 64=some (match Lib.parseIntB 64 l with | .ok v=>(v,true) | .range=>(Lib.intSat 64 l,false) | _=>(0,false)):=by
  unfold bH
  rw[if_pos ⟨rfl,rfl,by rw[aC];omega,xXe _⟩]
  rfl
theorem xFe {l:List UInt8} (h:yA l=true) (hl:l.length≤9):zE (oE l)=some ((tC 0 l:Nat):Int):=by
  unfold zE
  rw[xGv (by omega),xQz h hl,bnd_s]
  have hn:num ((tC 0 l:Nat):Int)=l:=by
    unfold num
    rw[Int.toNat_natCast];exact xZk l.length l rfl h
  have h0:¬ (((tC 0 l:Nat):Int)<0):=by omega
  simp only[Bool.not_true,Bool.false_eq_true,if_false];rw[if_neg (fun h=>h0 (of_decide_eq_true h)),uU (by omega),bnd_s,thn_nx,hn,xKk]
  rfl
theorem nB {l:List UInt8} (hl:l.length≤1048576):∃ n,zE (oE l)=some n∧(0≤n→num n=l):=by
  unfold zE
  rw[xGv hl,bnd_s]
  cases hp:Lib.parseIntB 64 l
  case range=>exact⟨-2,rfl,fun h=>absurd h (by decide)⟩
  case ok v=>
    simp only[Bool.not_true,Bool.false_eq_true,if_false]
    by_cases hv:v<0
    · rw[if_pos (decide_eq_true hv),thn_nx,if_pos rfl]
      exact⟨-2,rfl,fun h=>absurd h (by decide)⟩
    · rw[if_neg (by simpa using hv),uU (by omega),bnd_s,thn_nx,xCv]
      by_cases hn:num v=l
      · rw[hn,beq_self_eq_true,if_neg (by simp)]
        exact⟨v,rfl,fun _=>hn⟩
      · have:(num v==l)=false:=by rw[beq_eq_false_iff_ne];exact hn
        rw[this,if_pos (by rfl)];exact⟨-2,rfl,fun h=>absurd h (by decide)⟩
  · exact⟨-2,rfl,fun h=>absurd h (by decide)⟩
theorem xFc (k:Nat) (h:k<10):dig (UInt8.ofNat (48+k))=true∧(UInt8.ofNat (48+k)).toNat=48+k:=by
  have:(UInt8.ofNat (48+k)).toNat=48+k:=by simp;omega
  refine⟨?_,this⟩
  unfold dig
  rw[this]
  simp
  omega
theorem pQ:∀ n:Nat,Lib.decDigits n≠[]∧(Lib.decDigits n).all dig=true∧(1≤n→(Lib.decDigits n).head?≠some 48)∧tC 0 (Lib.decDigits n)=n∧(n<10→(Lib.decDigits n).length=1):=by
  intro n
  induction n using Nat.strongRecOn with
  | _ n ih=>
    by_cases h:n<10
    · rw[Lib.decDigits_one h]
      obtain⟨h1,h2⟩:=xFc n h;refine⟨by simp,by rw[List.all_cons,h1];rfl,fun hn e=>?_,?_,fun _=>rfl⟩
      · rw[List.head?_cons] at e
        have:=congrArg UInt8.toNat (Option.some.inj e);rw[h2] at this;have:(48:UInt8).toNat=48:=rfl
        omega
      · unfold tC
        simp only[List.foldl_cons,List.foldl_nil,h2]
        omega
    · obtain⟨i1,i2,i3,i4,_⟩:=ih (n / 10) (by omega)
      obtain⟨h1,h2⟩:=xFc (n % 10) (by omega);rw[Lib.decDigits,dif_neg h];refine⟨by simp,by rw[List.all_append,i2,List.all_cons,h1];rfl,fun _=>?_,?_,fun hn=>absurd hn h⟩
      · rw[List.head?_append]
        cases hh:(Lib.decDigits (n / 10)).head? with
        | none=>rw[List.head?_eq_none_iff] at hh;contradiction
        | some c=>
          have:=i3 (by omega);rw[hh] at this
          simpa using this
      · rw[xHy,i4,h2]
        omega
theorem xQc {n:Int} (h:0≤n):yA (num n)=true∧((tC 0 (num n):Nat):Int)=n:=by
  obtain⟨h1,h2,h3,h4,h5⟩:=pQ n.toNat
  unfold num
  refine⟨?_,by rw[h4];omega⟩
  unfold yA
  have e1:(Lib.decDigits n.toNat).isEmpty=false:=by cases hd:Lib.decDigits n.toNat with | nil=>contradiction | cons _ _=>rfl
  rw[e1,h2]
  by_cases h0:1≤n.toNat
  · have:=h3 h0
    have e2:((Lib.decDigits n.toNat).head? != some 48)=true:=by simpa using this
    rw[e2]
    rfl
  · rw[h5 (by omega)]
    simp
theorem xUj {n:Int} (h:0≤n) (h9:n≤999):(num n).length≤9:=by
  unfold num
  have:∀ m:Nat,m≤999→(Lib.decDigits m).length≤3:=by
    intro m hm
    by_cases h1:m<10
    · rw[Lib.decDigits_one h1,List.length_singleton];omega
    · rw[Lib.decDigits,dif_neg h1,List.length_append,List.length_singleton]
      by_cases h2:m / 10<10
      · rw[Lib.decDigits_one h2,List.length_singleton];omega
      · rw[Lib.decDigits,dif_neg h2,List.length_append,List.length_singleton,Lib.decDigits_one (by omega),List.length_singleton];omega
  have:=this n.toNat (by omega)
  omega
theorem uL (n:Int):∀ c∈num n,c≠32:=by
  obtain⟨_,h2,_⟩:=pQ n.toNat;intro c hc e;have:=List.all_eq_true.1 h2 c hc;rw[e] at this;exact absurd this (by decide)
theorem xPp {c:UInt8}:∀ {p:List UInt8},(∀ x∈p,x≠c)→aK c p=[p]
  | [],_=>rfl
  | b::p,h=>by
    rw[aK,if_neg (h b (by simp)),xPp (fun x hx=>h x (by simp [hx]))]
theorem xAe {c:UInt8}:∀ {p:List UInt8} (q:List UInt8),(∀ x∈p,x≠c)→aK c (p++c::q)=p::aK c q
  | [],q,_=>by rw[List.nil_append,aK,if_pos rfl]
  | b::p,q,h=>by
    rw[List.cons_append,aK,if_neg (h b (by simp)),xAe q (fun x hx=>h x (by simp [hx]))]
end Go.Proofs.YtlommebgedmjdaaGreatDoor
namespace Go.Proofs.YtlommebgedmjdaaGreatDoor
set_option linter.unusedVariables false
set_option linter.unusedSimpArgs false
theorem xBg (c:UInt8):∀ l:List UInt8,∀ x∈aK c l,x.length≤l.length
  | [],x,hx=>by
    rw[aK,List.mem_singleton] at hx;rw[hx];exact Nat.le_refl _
  | b::l,x,hx=>by
    have ih:=xBg c l;rw[List.length_cons]
    by_cases h:b=c
    · rw[aK,if_pos h] at hx
      rcases List.mem_cons.1 hx with rfl | hx
      · exact Nat.zero_le _
      · have:=ih x hx;omega
    · rw[aK,if_neg h] at hx
      cases hc:aK c l with
      | nil=>exact absurd hc (xKg c l)
      | cons y r=>
        rw[hc] at hx ih
        rcases List.mem_cons.1 hx with rfl | hx
        · have:=ih y (by simp);rw[List.length_cons];omega
        · have:=ih x (by simp [hx]);omega
end Go.Proofs.YtlommebgedmjdaaGreatDoor
namespace Go.Proofs.YtlommebgedmjdaaGreatDoor
set_option linter.unusedVariables false
set_option linter.unusedSimpArgs false
def sO (v:Int) (a:Atom):Bool:=(decide (-1≤a.rel) && decide (a.rel≤5)) && (decide (1≤(a.args.length:Int)) && decide ((a.args.length:Int)≤4)) && a.args.all fun x=>decide (0≤x) && decide (x≤v - 1)
def cM (f:Formula):Bool:=(decide (1≤f.free) && decide (f.free≤4)) && (decide (f.free≤f.vars) && decide (f.vars≤8)) && decide ((f.atoms.length:Int)≤16) && f.atoms.all (sO f.vars)
theorem xPy (l:List Atom) (p:Atom→Bool) (f:Atom→Option Bool) (hf:∀ x∈l,f x=some (p x)):xX l f=some (l.any p):=by
  obtain⟨i,h1,h2⟩:=rD l p f hf;have h3:zS l f=some i:=h1
  unfold xX
  rw[h3,bnd_s,h2]
theorem xJn (f:Formula):gV f=some (cM f):=by
  unfold gV fS cQ cM
  rw[uA,uA,bnd_s,bnd_s,bnd_s]
  cases h1:(decide (1≤f.free) && decide (f.free≤4)) with
  | false=>rfl
  | true=>
    rw[if_pos rfl]
    cases h2:(decide (f.free≤f.vars) && decide (f.vars≤8)) with
    | false=>rfl
    | true=>
      rw[if_pos rfl,thn_nx,bnd_s]
      cases h3:decide ((f.atoms.length:Int)≤16) with
      | false=>rfl
      | true=>
        simp only[Bool.and_eq_true,decide_eq_true_eq] at h1 h2
        rw[if_pos rfl,xPy f.atoms (fun a=>!sO f.vars a) _ (fun a _=>by
          unfold iE jJ cQ sO
          dsimp only
          rw[uA,bnd_s,uA,bnd_s,xKi _ _ _ (by omega)]
          cases (decide (-1≤a.rel) && decide (a.rel≤5)) with
          | false=>rfl
          | true=>
            cases (decide (1≤(a.args.length:Int)) && decide ((a.args.length:Int)≤4)) with
            | false=>rfl
            | true=>simp),bnd_s,thn_nx,xLm]
        simp
def xDm (l:List Int):List UInt8:=(l.map num).flatten
def xAn (a:Atom):List UInt8:=if a.rel= -1 then [61] else 82::num a.rel
def lH (a:Atom):List UInt8:=xAn a++58::xDm a.args
def bA (f:Formula):List UInt8:=[102,111,114,109,117,108,97]++32::num f.free++32::num f.vars++(f.atoms.map fun a=>32::lH a).flatten
theorem yJ {v:Int} {a:Atom} (hv:v≤8) (h:sO v a=true): -1≤a.rel∧a.rel≤5∧a.args.length≤4∧∀ x∈a.args,0≤x∧x≤9:=by
  unfold sO at h
  simp only[Bool.and_eq_true,decide_eq_true_eq,List.all_eq_true] at h;exact⟨h.1.1.1,h.1.1.2,by omega,fun x hx=>⟨(h.2 x hx).1,by have:=(h.2 x hx).2;omega⟩⟩
theorem yE {f:Formula} (h:cM f=true):0≤f.free∧f.free≤4∧0≤f.vars∧f.vars≤8∧f.atoms.length≤16∧∀ a∈f.atoms,sO f.vars a=true:=by
  unfold cM at h
  simp only[Bool.and_eq_true,decide_eq_true_eq,List.all_eq_true] at h;obtain⟨⟨⟨⟨h1,h2⟩,h3,h4⟩,h5⟩,h6⟩:=h;exact⟨by omega,h2,by omega,h4,by omega,h6⟩
theorem xEn {l:List Int} (h:∀ x∈l,0≤x∧x≤9):(xDm l).length≤21*l.length:=uS num 21 l (fun x hx=>nS (by have:=h x hx;omega))
theorem xKl {a:Atom} (h:a.rel≤5):(xAn a).length≤22:=by
  unfold xAn
  split
  · decide
  · have:=nS (n:=a.rel) (by omega)
    rw[List.length_cons]
    omega
theorem xCp {v:Int} {a:Atom} (hv:v≤8) (h:sO v a=true):(lH a).length≤107:=by
  obtain⟨h1,h2,h3,h4⟩:=yJ hv h;have:=xKl h2;have:=xEn h4
  unfold lH
  rw[List.length_append,List.length_cons]
  omega
theorem uX {f:Formula} (h:cM f=true):(bA f).length≤2000:=by
  obtain⟨h1,h2,h3,h4,h5,h6⟩:=yE h;have n1:=nS (n:=f.free) (by omega);have n2:=nS (n:=f.vars) (by omega);have n3:=uS (fun a=>32::lH a) 108 f.atoms (fun a ha=>by have:=xCp h4 (h6 a ha);rw[List.length_cons];omega)
  unfold bA
  simp only[List.length_append,List.length_cons,List.length_nil]
  omega
theorem xNc {l:List Int} (h:∀ x∈l,0≤x∧x≤9) (hl:l.length≤4):jM l=some (oE (xDm l)):=by
  unfold jM
  rw[xIk num 21 1000000 (s:=[]) (fun x hx=>nS (by have:=h x hx;omega)) (by simp only[List.length_nil];omega) (fun j x s hx hs=>by
    have:=nS (n:=x) (by have:=h x hx;omega)
    rw[uU (h x hx).1,bnd_s,xCo (by omega),bnd_s]),thn_nx]
  rfl
theorem mD (f:Formula):bE f=some (oE (if cM f then bA f else [])):=by
  unfold bE
  rw[show(Formula.mk f.free f.vars f.atoms)=f from rfl,xJn,bnd_s]
  cases h:cM f with
  | false=>rfl
  | true=>
    obtain⟨h1,h2,h3,h4,h5,h6⟩:=yE h;have n1:=nS (n:=f.free) (by omega);have n2:=nS (n:=f.vars) (by omega)
    rw[if_neg (by simp),uU h1,bnd_s,uU h3,bnd_s,xGg lH (by simp only[List.length_cons,List.length_nil];omega) (fun j a s ha hs=>by
      obtain⟨g1,g2,g3,g4⟩:=yJ h4 (h6 a ha);have gd:=xEn g4;have gr:=xKl g2
      have e:vC (σ:=ByteArray) (if (a.rel != (-1)) then
          xK (gW a.rel) fun z165=>
          xK (sK (oE [82]) z165) fun z169=>
          some (.nx z169)
         else
          some (.nx (oE [61]))) (fun s162=>
        xK (sK s162 (oE [58])) fun z171=>
        xK (jM a.args) fun z173=>
        xK (sK z171 z173) fun z177=>
        xK (ap s ([z177])) fun z186=>
        some (Ctl.go (ρ:=ByteArray) z186))=some (.go (s++[oE (lH a)])):=by
        have e1:(if (a.rel != (-1)) then
          xK (gW a.rel) fun z165=>
          xK (sK (oE [82]) z165) fun z169=>
          some (.nx z169)
         else
          some (.nx (oE [61])))=some (Out.nx (ρ:=Ctl (List ByteArray) ByteArray) (oE (xAn a))):=by
          unfold xAn
          by_cases hr:a.rel= -1
          · rw[if_neg (by simp [hr]),if_pos hr]
          · have:=nS (n:=a.rel) (by omega)
            rw[if_pos (by simpa using hr),if_neg hr,uU (by omega),bnd_s,xCo (by simp only[List.length_cons,List.length_nil];omega),bnd_s]
            rfl
        rw[e1,thn_nx,xCo (by simp only[List.length_cons,List.length_nil];omega),bnd_s,xNc g4 g3,bnd_s,xCo (by simp only[List.length_append,List.length_cons,List.length_nil];omega),bnd_s,
          zD (by simp only[List.length_cons,List.length_nil];omega),bnd_s]
        unfold lH
        simp
      exact e),thn_nx]
    have ej:=xZq [102,111,114,109,117,108,97] (num f.free::num f.vars::f.atoms.map lH) [32] 107 (fun y hy=>by
      rcases List.mem_cons.1 hy with rfl | hy
      · omega
      · rcases List.mem_cons.1 hy with rfl | hy
        · omega
        · obtain⟨a,ha,rfl⟩:=List.mem_map.1 hy
          exact xCp h4 (h6 a ha)) (by simp only[List.length_cons,List.length_nil,List.length_map];omega) (by simp only[List.length_cons,List.length_map];omega)
    have el:(oE [102,111,114,109,117,108,97]::(num f.free::num f.vars::f.atoms.map lH).map oE)=[oE [102,111,114,109,117,108,97],oE (num f.free),oE (num f.vars)]++f.atoms.map fun x=>oE (lH x):=by
      simp [List.map_map,Function.comp_def]
    rw[el] at ej;rw[ej,bnd_s,if_pos rfl]
    unfold bA
    simp [List.map_map,Function.comp_def]
theorem xSo {f:Formula}:(bA f==([]:List UInt8))=false:=rfl
def xDk (g:Gadgets):Bool:=decide ((g.formulas.length:Int)≤6) && g.formulas.all cM
def xGj (g:Gadgets):List UInt8:=(g.formulas.map fun f=>bA f++[10]).flatten
theorem xMl:∀ (l:List Formula) (k:Nat) (s:List UInt8),s.length+2001*l.length≤1000000→oM (σ:=ByteArray) (ρ:=ByteArray) (fun(k65:Nat) (x67:Formula) (s60:ByteArray)=>
    xK (bE (Formula.mk x67.free x67.vars x67.atoms)) fun z92=>
    if (sEq z92 (oE [])) then
     some (.ret ((oE [])))
    else
     xK (sK z92 (oE [10])) fun z97=>
     xK (sK s60 z97) fun z99=>
     some (.go z99)) l k (oE s)=some (if l.all cM then .nx (oE (s++(l.map fun f=>bA f++[10]).flatten)) else .ret (oE []))
  | [],_,s,_=>by simp
  | f::l,k,s,h=>by
    rw[List.length_cons] at h
    cases hf:cM f with
    | false=>
      rw[iV (r:=oE []) (by rw[show(Formula.mk f.free f.vars f.atoms)=f from rfl,mD,bnd_s,hf,show(if false=true then bA f else [])=[] from rfl,xCv];rfl)]
      simp [hf]
    | true=>
      have hl:=uX hf
      rw[qV (s':=oE (s++(bA f++[10]))) (by
        rw[show(Formula.mk f.free f.vars f.atoms)=f from rfl,mD,bnd_s,hf,if_pos rfl,xCv,xSo,if_neg (by simp),xCo (by simp only[List.length_cons,List.length_nil];omega),bnd_s,xCo (by simp only[List.length_append,List.length_cons,List.length_nil];omega),bnd_s]),
        xMl l (k+1) _ (by simp only[List.length_append,List.length_cons,List.length_nil];omega)]
      simp [hf]
theorem sN (g:Gadgets):aB g=some (oE (if xDk g then xGj g else [])):=by
  unfold aB xDk
  by_cases h:(g.formulas.length:Int)≤6
  · rw[if_neg (by simp;omega),xMl g.formulas 0 [] (by simp only[List.length_nil];omega)]
    cases ha:g.formulas.all cM with
    | false=>simp
    | true=>
      simp only[if_true,thn_nx,List.nil_append,h,decide_true,Bool.and_self]
      rfl
  · rw[if_pos (by simp;omega)]
    simp [h]
end Go.Proofs.YtlommebgedmjdaaGreatDoor
namespace Go.Proofs.YtlommebgedmjdaaGreatDoor
set_option maxRecDepth 100000
set_option linter.unusedVariables false
set_option linter.unusedSimpArgs false
theorem rU (l:List UInt8):(oE l).data.toList=l:=by simp [oE]
def dgI (c:UInt8):Int:=((c.toNat:Nat):Int) - 48
def xPe (y:List UInt8):List Int:=if y.all dig then y.map dgI else []
theorem xPq (c:UInt8):dig c=true↔48≤c.toNat∧c.toNat≤57:=by unfold dig;simp
theorem tN:∀ (y:List UInt8) (k:Nat) (s:List Int),s.length+y.length≤100000000→vC (oM (σ:=(List Int)) (ρ:=(List Int)) (fun(k47:Nat) (x49:UInt8) (s41:(List Int))=>
   vC (σ:=Bool) (
    if (decide ((x49.toNat:Int)<((48:UInt8).toNat:Int))) then  some (.nx true) else  some (.nx (decide (((57:UInt8).toNat:Int)<(x49.toNat:Int))))) fun s59=>
   if s59 then
    some (.ret ([]))
   else
    xK (ap s41 ([((u8w ((x49.toNat:Int) - ((48:UInt8).toNat:Int))).toNat:Int)])) fun z65=>
    some (.go z65)) y k s) (fun s44=>some s44)=some (if y.all dig then s++y.map dgI else [])
  | [],k,s,_=>by simp [oM]
  | c::y,k,s,h=>by
    rw[List.length_cons] at h;have e48:((48:UInt8).toNat:Int)=48:=rfl;have e57:((57:UInt8).toNat:Int)=57:=rfl
    by_cases hd:dig c=true
    · have hd':=(xPq c).1 hd
      have hw:((u8w ((c.toNat:Int) - 48)).toNat:Int)=dgI c:=by
        unfold u8w dgI
        rw[show((c.toNat:Int) - 48) % 256=(c.toNat:Int) - 48 by omega]
        have:((c.toNat:Int) - 48).toNat=c.toNat - 48:=by omega
        rw[this]
        have h2:(UInt8.ofNat (c.toNat - 48)).toNat=c.toNat - 48:=by simp;omega
        rw[h2]
        omega
      rw[qV (s':=s++[dgI c]) (by
        rw[e48,e57,if_neg (by simp;omega),thn_nx,if_neg (by simp;omega),hw,zD (by simp only[List.length_cons,List.length_nil];omega),bnd_s])]
      rw[tN y (k+1) (s++[dgI c]) (by rw[List.length_append,List.length_singleton];omega)]
      simp [hd]
    · have hd':¬ (48≤c.toNat∧c.toNat≤57):=fun h=>hd ((xPq c).2 h)
      have hb:∃ b,(if (decide ((c.toNat:Int)<48))=true then some (Out.nx (ρ:=Ctl (List Int) (List Int)) true) else some (.nx (decide (57<(c.toNat:Int)))))=some (.nx b)∧b=true:=by
        by_cases h1:(c.toNat:Int)<48
        · exact⟨true,by rw[if_pos (decide_eq_true h1)],rfl⟩
        · exact⟨_,by rw[if_neg (by simpa using h1)],decide_eq_true (by omega)⟩
      obtain⟨b,h1,h2⟩:=hb;rw[iV (r:=[]) (by rw[e48,e57,h1,thn_nx,h2];rfl),thn_ret]
      simp [hd]
theorem wY {y:List UInt8} (h:y.length≤1048576):gB (oE y)=some (xPe y):=by
  unfold gB
  rw[rU];exact(tN y 0 [] (by simp;omega)).trans (by simp [xPe])
theorem xUm {l:List Int} (h:∀ x∈l,0≤x∧x≤9):(xDm l).all dig=true∧(xDm l).map dgI=l:=by
  induction l with
  | nil=>exact⟨rfl,rfl⟩
  | cons x r ih=>
    obtain⟨h1,h2⟩:=ih (fun y hy=>h y (by simp [hy]));have hx:=h x (by simp);have e:xDm (x::r)=num x++xDm r:=rfl
    have e1:num x=[UInt8.ofNat (48+x.toNat)]:=by unfold num;rw[Lib.decDigits_one (by omega)]
    obtain⟨d1,d2⟩:=xFc x.toNat (by omega);rw[e,e1];refine⟨by rw[List.all_append,h1,List.all_cons,d1];rfl,?_⟩;rw[List.map_append,h2];simp only[List.map_cons,List.map_nil,List.singleton_append,List.cons.injEq,and_true]
    unfold dgI
    rw[d2]
    omega
theorem xNv {l:List Int} (h:∀ x∈l,0≤x∧x≤9):xPe (xDm l)=l:=by
  obtain⟨h1,h2⟩:=xUm h
  unfold xPe
  rw[if_pos h1,h2]
theorem xHp {c:UInt8}:∀ {p:List UInt8} (q:List UInt8),(∀ x∈p,x≠c)→Lib.index (p++c::q) [c]=p.length
  | [],q,_=>by simp [Lib.index]
  | b::p,q,h=>by
    have ih:=xHp q (fun x hx=>h x (List.mem_cons_of_mem _ hx));have hb:b≠c:=h b (by simp)
    show Lib.index (b::(p++c::q)) [c]=_
    rw[Lib.index]
    have h1:[c].isPrefixOf (b::(p++c::q))=false:=by simp [List.isPrefixOf,hb.symm]
    rw[h1,ih]
    simp
theorem xRn {p q:List UInt8} {c:UInt8} (h:∀ x∈p,x≠c):Lib.cut (p++c::q) [c]=(p,q,true):=by
  unfold Lib.cut
  rw[xHp q h]
  simp
theorem oAj (l sep:List UInt8):(Lib.cut l sep).1.length≤l.length∧(Lib.cut l sep).2.1.length≤l.length:=by
  unfold Lib.cut
  split
  · simp only[List.length_take,List.length_drop];omega
  · simp
theorem xXn {l sep:List UInt8} (h:l.length≤1048576):jO (oE l) (oE sep)=some (oE (Lib.cut l sep).1,oE (Lib.cut l sep).2.1,(Lib.cut l sep).2.2):=by
  unfold jO
  rw[if_pos (by rw[aC];omega),rU,rU]
  rfl
theorem xLd (l p:List UInt8):zH (oE l) (oE p)=some (p.isPrefixOf l):=by
  unfold zH
  rw[aC,aC]
  by_cases h:p.length≤l.length
  · rw[if_pos (decide_eq_true (by omega)),show(0:Int)=((0:Nat):Int) from rfl,xPu (Nat.zero_le _) h,bnd_s,thn_nx,xCv,List.drop_zero]
    congr 1
    rw[Bool.eq_iff_iff,beq_iff_eq,List.isPrefixOf_iff_prefix,List.prefix_iff_eq_take];exact eq_comm
  · rw[if_neg (by simp;omega),thn_nx]
    congr 1
    symm
    rw[← Bool.not_eq_true,List.isPrefixOf_iff_prefix];intro hp;exact h hp.length_le
theorem xDg (l p:List UInt8):eC (oE l) (oE p)=some (if p.isPrefixOf l then (oE (l.drop p.length),true) else (oE l,false)):=by
  unfold eC kM
  rw[xLd,bnd_s]
  cases h:p.isPrefixOf l with
  | false=>simp [xK]
  | true=>
    have hl:p.length≤l.length:=(List.isPrefixOf_iff_prefix.1 h).length_le;rw[if_neg (by simp),aC,aC,xPu hl (Nat.le_refl _),bnd_s,bnd_s,List.take_length]
    rfl
theorem xJi {a:Atom}:∀ c∈xAn a,c≠58:=by
  unfold xAn
  split
  · intro c hc;simp at hc;subst hc;decide
  · intro c hc
    rcases List.mem_cons.1 hc with rfl | hc
    · decide
    · obtain⟨_,h2,_⟩:=pQ a.rel.toNat
      intro e;subst e;have:=List.all_eq_true.1 h2 58 hc;exact absurd this (by decide)
theorem xPo {l:List Int} {c:UInt8} (hc:dig c=false):∀ x∈xDm l,x≠c:=by
  intro x hx e;subst e
  unfold xDm at hx
  obtain⟨y,hy,hxy⟩:=List.mem_flatten.1 hx;obtain⟨n,_,rfl⟩:=List.mem_map.1 hy;obtain⟨_,h2,_⟩:=pQ n.toNat;have:=List.all_eq_true.1 h2 x hxy;rw[hc] at this
  cases this
theorem xHk {x:List UInt8} (h:x.length≤1048576):∃ a,aO (oE x)=some a:=by
  unfold aO
  obtain⟨c1,c2⟩:=oAj x [58];rw[xXn h,bnd_s,wY (by omega),bnd_s,xDg,bnd_s]
  split
  · rename_i hp
    rw[if_pos rfl];obtain⟨n,hn,_⟩:=nB (l:=(Lib.cut x [58]).1.drop ([82]:List UInt8).length) (by rw[List.length_drop];omega)
    show ∃ a,(xK (zE (oE ((Lib.cut x [58]).1.drop ([82]:List UInt8).length))) fun z28=>some (Atom.mk z28 _))=some a
    rw[hn,bnd_s];exact⟨_,rfl⟩
  · rw[if_neg (by simp)]
    exact⟨_,rfl⟩
theorem xNe {n:Int} (h:0≤n) (h9:n≤999):zE (oE (num n))=some n:=by
  obtain⟨h1,h2⟩:=xQc h;rw[xFe h1 (xUj h h9),h2]
theorem xFy {v:Int} {a:Atom} (hv:v≤8) (h:sO v a=true):aO (oE (lH a))=some a:=by
  obtain⟨h1,h2,h3,h4⟩:=yJ hv h;have hl:=xCp hv h
  unfold aO
  have hc:Lib.cut (lH a) [58]=(xAn a,xDm a.args,true):=xRn xJi
  have hd:(xDm a.args).length≤1048576:=by have:=xEn h4;omega
  rw[xXn (by omega),hc,bnd_s,wY hd,xNv h4,bnd_s,xDg,bnd_s]
  by_cases hr:a.rel= -1
  · have e:xAn a=[61]:=by unfold xAn;rw[if_pos hr]
    rw[e];have hp:List.isPrefixOf [82] ([61]:List UInt8)=false:=rfl
    show(if (if List.isPrefixOf [82] ([61]:List UInt8)=true then _ else (oE ([61]:List UInt8),false)).2=true then _ else some (Atom.mk (-1) a.args))=some a
    rw[hp,if_neg (by simp),← hr]
  · have e:xAn a=82::num a.rel:=by unfold xAn;rw[if_neg hr]
    have hp:List.isPrefixOf [82] (82::num a.rel)=true:=by simp [List.isPrefixOf]
    rw[e,if_pos hp,if_pos rfl]
    show(xK (zE (oE (num a.rel))) fun z28=>some (Atom.mk z28 a.args))=some a
    rw[xNe (by omega) (by omega),bnd_s]
end Go.Proofs.YtlommebgedmjdaaGreatDoor
namespace Go.Proofs.YtlommebgedmjdaaGreatDoor
set_option maxRecDepth 100000
set_option linter.unusedVariables false
set_option linter.unusedSimpArgs false
def xYv:Formula×Int:=(⟨0,0,[]⟩,5)
theorem xLr {α:Type} (t:α→List UInt8):∀ (ts:List α) (p:List UInt8),(∀ x∈p,x≠32)→(∀ a∈ts,∀ x∈t a,x≠32)→aK 32 (p++(ts.map fun a=>32::t a).flatten)=p::ts.map t
  | [],p,hp,_=>by simp only[List.map_nil,List.flatten_nil,List.append_nil];exact xPp hp
  | a::ts,p,hp,h=>by
    have ih:=xLr t ts (t a) (h a (by simp)) (fun b hb=>h b (by simp [hb]));rw[List.map_cons,List.flatten_cons,List.cons_append,xAe _ hp,ih,List.map_cons]
theorem xHl (a:Atom):∀ c∈lH a,c≠32:=by
  intro c hc
  unfold lH at hc
  rcases List.mem_append.1 hc with hc | hc
  · unfold xAn at hc
    split at hc
    · simp at hc;subst hc;decide
    · rcases List.mem_cons.1 hc with rfl | hc
      · decide
      · exact uL _ c hc
  · rcases List.mem_cons.1 hc with rfl | hc
    · decide
    · exact xPo (by decide) c hc
def xSi:List UInt8:=[102,111,114,109,117,108,97]
theorem xFm (f:Formula):aK 32 (bA f)=xSi::num f.free::num f.vars::f.atoms.map lH:=by
  have e:bA f=xSi++32::(num f.free++32::(num f.vars++(f.atoms.map fun a=>32::lH a).flatten)):=by
    unfold bA xSi
    simp [List.append_assoc]
  rw[e,xAe _ (by decide),xAe _ (uL _),xLr lH _ _ (uL _) (fun a _=>xHl a)]
def rdA (x:List UInt8):Atom:=(aO (oE x)).getD default
theorem xYg {x:List UInt8} (h:x.length≤1048576):aO (oE x)=some (rdA x):=by
  obtain⟨a,ha⟩:=xHk h
  unfold rdA
  rw[ha]
  rfl
theorem xRf {v:Int} {a:Atom} (hv:v≤8) (h:sO v a=true):rdA (lH a)=a:=by
  unfold rdA
  rw[xFy hv h]
  rfl
theorem xCz {ρ : Type} : ∀ (ws : List (List UInt8)) (k : Nat) (s : List Atom), (∀ x ∈ ws, x.length ≤ 1048576) → s.length + ws.length ≤ 1000000 → oM (σ := (List Atom)) (ρ := ρ) (fun (k183 : Nat) (x185 : ByteArray) (s177 : (List Atom)) =>
     xK (aO x185) fun z192=>
     xK (ap s177 ([(Atom.mk z192.rel z192.args)])) fun z201=>
     some (.go z201)) (ws.map oE) k s=some (.nx (s++ws.map rdA))
  | [],k,s,_,_=>by simp [oM]
  | x::ws,k,s,h,hs=>by
    rw[List.length_cons] at hs;rw[List.map_cons,qV (s':=s++[rdA x]) (by rw[xYg (h x (by simp)),bnd_s,zD (by simp only[List.length_cons,List.length_nil];omega),bnd_s]),xCz ws (k+1) _ (fun y hy=>h y (by simp [hy])) (by rw[List.length_append,List.length_singleton];omega),List.append_assoc]
    rfl
theorem xVf {α:Type} {l:List α} {i:Nat} (h:i≤l.length):sl l (i:Int) (l.length:Int)=some (l.drop i):=by
  unfold sl
  rw[if_pos ⟨by omega,by omega,by omega⟩]
  simp
theorem xVh {l:List UInt8} (hl:l.length≤20000):∃ r,zU (oE l)=some r∧(r=xYv∨(cM r.1=true∧bA r.1=l∧r.2=0))∧∀ f,cM f=true→bA f=l→r=(f,0):=by
  unfold zU
  rw[aC,if_neg (by simp;omega),xKx (by omega),bnd_s];have hm:=xBg 32 l;have hlen:=xCj 32 l;generalize hws:aK 32 l=ws at *;rw[List.length_map]
  by_cases h3:(ws.length:Int)<3
  · rw[if_pos (decide_eq_true h3)]
    refine⟨_,rfl,.inl rfl,fun f h1 h2=>?_⟩;rw[← h2,xFm] at hws;rw[← hws] at h3;simp only[List.length_cons] at h3
    omega
  · rw[if_neg (by simpa using h3)]
    obtain⟨w0,w1,w2,rest,rfl⟩:∃ w0 w1 w2 rest,ws=w0::w1::w2::rest:=by
      match ws,h3 with
      | a::b::c::r,_=>exact⟨a,b,c,r,rfl⟩
      | [],h=>simp at h
      | [_],h=>simp at h
      | [_,_],h=>simp at h
    obtain⟨n1,e1,_⟩:=nB (l:=w1) (by have:=hm w1 (by simp);omega);obtain⟨n2,e2,_⟩:=nB (l:=w2) (by have:=hm w2 (by simp);omega)
    have hsl:sl ((w0::w1::w2::rest).map oE) 3 ((w0::w1::w2::rest).length:Int)=some (rest.map oE):=by
      have:=xVf (l:=(w0::w1::w2::rest).map oE) (i:=3) (by simp);rw[List.length_map] at this;exact this
    simp only[List.length_cons] at hlen
    rw[show ix ((w0::w1::w2::rest).map oE) 1=some (oE w1) from rfl,bnd_s,show ix ((w0::w1::w2::rest).map oE) 2=some (oE w2) from rfl,bnd_s,e1,bnd_s,e2,bnd_s,hsl,bnd_s,
      xCz rest 0 [] (fun x hx=>by have:=hm x (by simp [hx]);omega) (by simp only[List.length_nil];omega),thn_nx,List.nil_append,mD,bnd_s,xCv]
    have hne:l≠[]:=by
      intro e;subst e
      simp [aK] at hws
    have key:∀ f,cM f=true→bA f=l→n1=f.free∧n2=f.vars∧rest.map rdA=f.atoms:=fun f h1 h2=>by
      obtain⟨f1,f2,f3,f4,_,f5⟩:=yE h1;rw[← h2,xFm] at hws;simp only[List.cons.injEq] at hws;obtain⟨_,rfl,rfl,rfl⟩:=hws;rw[xNe f1 (by omega)] at e1;rw[xNe f3 (by omega)] at e2;refine⟨(Option.some.inj e1).symm,(Option.some.inj e2).symm,?_⟩;rw[List.map_map]
      conv=>rhs;rw[← List.map_id f.atoms]
      exact List.map_congr_left (fun a ha=>xRf f4 (f5 a ha))
    by_cases hw:cM ⟨n1,n2,rest.map rdA⟩=true∧bA ⟨n1,n2,rest.map rdA⟩=l
    · rw[if_pos hw.1,hw.2,beq_self_eq_true,if_neg (by simp)]
      refine⟨_,rfl,.inr ⟨hw.1,hw.2,rfl⟩,fun f h1 h2=>?_⟩;obtain⟨rfl,rfl,h5⟩:=key f h1 h2;rw[h5]
    · have:((if cM ⟨n1,n2,rest.map rdA⟩=true then bA ⟨n1,n2,rest.map rdA⟩ else [])==l)=false:=by
        rw[beq_eq_false_iff_ne]
        split
        · rename_i h;exact fun e=>hw ⟨h,e⟩
        · exact fun e=>hne e.symm
      rw[this,if_pos (by rfl)];refine⟨_,rfl,.inl rfl,fun f h1 h2=>?_⟩;obtain⟨rfl,rfl,h5⟩:=key f h1 h2;rw[h5] at hw;exact absurd ⟨h1,h2⟩ hw
end Go.Proofs.YtlommebgedmjdaaGreatDoor
namespace Go.Proofs.YtlommebgedmjdaaGreatDoor
set_option maxRecDepth 100000
set_option linter.unusedVariables false
set_option linter.unusedSimpArgs false
theorem xUt {N:Nat} (hN:20≤N) (l:List UInt8) (hl:l.length≤1048576):∃ r:Formula×Int,True∧zU (oE l)=some r∧(r.2≠0∧(∀ f,cM f=true→bA f≠l)∨(cM r.1=true∧bA r.1=l∧r.2=0))∧∀ f,cM f=true→bA f=l→r=(f,0):=by
  by_cases h:l.length≤20000
  · obtain⟨r2,b1,b2,b3⟩:=xVh h
    by_cases hex:∃ f,cM f=true∧bA f=l
    · obtain⟨f,h1,h2⟩:=hex
      have e2:=b3 f h1 h2;subst e2;exact⟨(f,0),trivial,b1,.inr ⟨h1,h2,rfl⟩,b3⟩
    · have e2:r2=xYv:=b2.resolve_right (fun h=>hex ⟨_,h.1,h.2.1⟩)
      subst e2;exact⟨xYv,trivial,b1,.inl ⟨by decide,fun f h1 h2=>hex ⟨f,h1,h2⟩⟩,b3⟩
  · have hno:∀ f,cM f=true→bA f≠l:=fun f h1 h2=>by
      have:=uX h1;rw[h2] at this
      omega
    refine⟨(⟨0,0,[]⟩,2),trivial,?_,.inl ⟨by decide,hno⟩,fun f h1 h2=>absurd h2 (hno f h1)⟩
    unfold zU
    rw[aC,if_pos (decide_eq_true (by omega))]
theorem xQn {f g:Formula} (hf:cM f=true) (hg:cM g=true) (h:bA f=bA g):f=g:=by
  obtain⟨r,_,_,_,h4⟩:=xUt (N:=20) (Nat.le_refl _) (bA f) (by have:=uX hf;omega);have e1:=h4 f hf rfl;have e2:=h4 g hg h.symm;rw[e1] at e2;exact(Prod.mk.inj e2).1
theorem rW:∀ {fs gs:List Formula},(∀ f∈fs,cM f=true)→(∀ f∈gs,cM f=true)→fs.map bA=gs.map bA→fs=gs
  | [],[],_,_,_=>rfl
  | [],_::_,_,_,h=>by simp at h
  | _::_,[],_,_,h=>by simp at h
  | f::fs,g::gs,h1,h2,h=>by
    simp only[List.map_cons,List.cons.injEq] at h;rw[xQn (h1 f (by simp)) (h2 g (by simp)) h.1,rW (fun x hx=>h1 x (by simp [hx])) (fun x hx=>h2 x (by simp [hx])) h.2]
theorem xIq (f:Formula):∀ c∈bA f,c≠10:=by
  have hd:∀ n:Int,∀ c∈num n,c≠10:=fun n c hc e=>by
    obtain⟨_,h2,_⟩:=pQ n.toNat;have:=List.all_eq_true.1 h2 c hc;rw[e] at this;exact absurd this (by decide)
  intro c hc
  unfold bA at hc
  rcases List.mem_append.1 hc with hc | hc
  · rcases List.mem_append.1 hc with hc | hc
    · rcases List.mem_append.1 hc with hc | hc
      · intro e;subst e;exact absurd hc (by decide)
      · rcases List.mem_cons.1 hc with rfl | hc
        · decide
        · exact hd _ c hc
    · rcases List.mem_cons.1 hc with rfl | hc
      · decide
      · exact hd _ c hc
  · obtain⟨y,hy,hcy⟩:=List.mem_flatten.1 hc
    obtain⟨a,_,rfl⟩:=List.mem_map.1 hy
    rcases List.mem_cons.1 hcy with rfl | hcy
    · decide
    · unfold lH at hcy
      rcases List.mem_append.1 hcy with h | h
      · unfold xAn at h
        split at h
        · simp at h;subst h;decide
        · rcases List.mem_cons.1 h with rfl | h
          · decide
          · exact hd _ c h
      · rcases List.mem_cons.1 h with rfl | h
        · decide
        · exact xPo (by decide) c h
theorem xHv (c:UInt8):∀ (xs:List (List UInt8)),(∀ x∈xs,∀ b∈x,b≠c)→aK c ((xs.map fun x=>x++[c]).flatten)=xs++[[]]
  | [],_=>rfl
  | x::xs,h=>by
    rw[List.map_cons,List.flatten_cons,List.append_assoc,List.singleton_append,xAe _ (h x (by simp)),xHv c xs (fun y hy=>h y (by simp [hy]))]
    rfl
theorem xKm (c:UInt8):∀ (p:List UInt8),aK c (p++[c])=aK c p++[[]]
  | []=>by simp [aK]
  | b::p=>by
    have ih:=xKm c p;have hne:=xKg c p;rw[List.cons_append]
    by_cases h:b=c
    · rw[aK,if_pos h,aK,if_pos h,ih,List.cons_append]
    · rw[aK,if_neg h,aK,if_neg h,ih]
      cases hc:aK c p with
      | nil=>exact absurd hc hne
      | cons x r=>rfl
theorem yV (g:Gadgets):xGj g=((g.formulas.map bA).map fun x=>x++[10]).flatten:=by unfold xGj;rw[List.map_map];rfl
def oAm:Gadgets×Int:=(⟨[]⟩,5)
def wS (l:List UInt8):List UInt8:=if l.drop (l.length - 1)=[10] then l.take (l.length - 1) else l
theorem oAp (l:List UInt8) (hl:l.length≤1048576):dK (oE l) (oE [10])=some (oE (wS l)):=by
  unfold dK kF kN
  rw[aC,aC]
  by_cases h0:l=[]
  · subst h0;rfl
  · have h1:1≤l.length:=by cases l with | nil=>exact absurd rfl h0 | cons _ _=>simp
    have e:(l.length:Int) - (([10]:List UInt8).length:Int)=((l.length - 1:Nat):Int):=by simp only[List.length_cons,List.length_nil];omega
    rw[if_pos (decide_eq_true (by simp only[List.length_cons,List.length_nil];omega)),e,kW (by omega) (by omega),bnd_s,xPu (by omega) (Nat.le_refl _),bnd_s,thn_nx,xCv,List.take_length,bnd_s]
    unfold wS
    by_cases h2:l.drop (l.length - 1)=[10]
    · rw[h2,beq_self_eq_true,if_pos rfl,if_pos rfl,bnd_s,show(0:Int)=((0:Nat):Int) from rfl,xPu (Nat.zero_le _) (by omega),bnd_s,bnd_s,List.drop_zero]
    · have:(l.drop (l.length - 1)==[10])=false:=by rw[beq_eq_false_iff_ne];exact h2
      rw[this,if_neg (by simp),if_neg h2,bnd_s]
theorem xQm (p:List UInt8):wS (p++[10])=p:=by
  unfold wS
  simp
theorem xFi {N:Nat} (hN:20≤N):∀ (ls:List (List UInt8)) (k:Nat) (s:List Formula),(∀ x∈ls,x.length≤1048576)→s.length+ls.length≤3000000 →
    (∃ fs:List Formula,ls=fs.map bA∧(∀ f∈fs,cM f=true)∧oM (σ:=(List Formula)) (ρ:=Gadgets×Int) (fun(k85:Nat) (x87:ByteArray) (s79:(List Formula))=>
     xK (zU x87) fun z94=>
     if (z94.2 != 0) then
      some (.ret ((Gadgets.mk ([])),5))
     else
      xK (ap s79 ([(Formula.mk z94.1.free z94.1.vars z94.1.atoms)])) fun z108=>
      some (.go z108)) (ls.map oE) k s=some (.nx (s++fs))) ∨
    ((∀ fs:List Formula,(∀ f∈fs,cM f=true)→ls≠fs.map bA)∧oM (σ:=(List Formula)) (ρ:=Gadgets×Int) (fun(k85:Nat) (x87:ByteArray) (s79:(List Formula))=>
     xK (zU x87) fun z94=>
     if (z94.2 != 0) then
      some (.ret ((Gadgets.mk ([])),5))
     else
      xK (ap s79 ([(Formula.mk z94.1.free z94.1.vars z94.1.atoms)])) fun z108=>
      some (.go z108)) (ls.map oE) k s=some (.ret oAm))
  | [],k,s,_,_=>.inl ⟨[],rfl,(fun f h=>nomatch h),by simp [oM]⟩
  | x::ls,k,s,h,hs=>by
    rw[List.length_cons] at hs;obtain⟨r,_,h2,h3,h4⟩:=xUt hN x (h x (by simp))
    rcases h3 with ⟨h5,h6⟩ | ⟨h5,h6,h7⟩
    · refine .inr ⟨fun fs hf e=>?_,?_⟩
      · cases fs with
        | nil=>cases e
        | cons f fs=>exact h6 f (hf f (by simp)) (List.cons.inj e).1.symm
      · rw[List.map_cons,iV (r:=oAm) (by rw[h2,bnd_s,if_pos (by simpa using h5)];rfl)]
    · have hgo := fun (b : Nat → ByteArray → List Formula → Option (Ctl (List Formula) (Gadgets × Int))) (hb : b = fun (k85 : Nat) (x87 : ByteArray) (s79 : (List Formula)) =>
         xK (zU x87) fun z94=>
         if (z94.2 != 0) then
          some (.ret ((Gadgets.mk ([])),5))
         else
          xK (ap s79 ([(Formula.mk z94.1.free z94.1.vars z94.1.atoms)])) fun z108=>
          some (.go z108))=>qV (b:=b) (x:=oE x) (l:=ls.map oE) (k:=k) (s:=s) (s':=s++[r.1]) (by
        subst hb
        dsimp only
        rw[h2,bnd_s,h7,if_neg (by simp),zD (by simp only[List.length_cons,List.length_nil];omega),bnd_s])
      rw[List.map_cons,hgo _ rfl]
      rcases xFi hN ls (k+1) (s++[r.1]) (fun y hy=>h y (by simp [hy])) (by rw[List.length_append,List.length_singleton];omega) with ⟨fs,e1,e2,e3⟩ | ⟨e1,e2⟩
      · refine .inl ⟨r.1::fs,by rw[List.map_cons,h6,e1],fun f hf=>?_,by rw[e3,List.append_assoc];rfl⟩
        rcases List.mem_cons.1 hf with rfl | hf
        · exact h5
        · exact e2 f hf
      · refine .inr ⟨fun fs hf e=>?_,e2⟩
        cases fs with
        | nil=>cases e
        | cons f fs=>exact e1 fs (fun g hg=>hf g (by simp [hg])) (List.cons.inj e).2
theorem xXc {N:Nat} (hN:20≤N) {l:List UInt8} (hl:l.length≤20000) (hne:l≠[]):∃ r,bL (oE l)=some r∧(r=oAm∨(xDk r.1=true∧xGj r.1=l∧r.2=0))∧∀ g,xDk g=true→xGj g=l→r=(g,0):=by
  unfold bL
  have h0:(l==[])=false:=by rw[beq_eq_false_iff_ne];exact hne
  rw[aC,if_neg (by simp;omega),xCv,h0,if_neg (by simp),oAp l (by omega),bnd_s]
  have ht:(wS l).length≤20000:=by unfold wS;split<;>(try rw[List.length_take])<;>omega
  rw[xKx (by omega),bnd_s];have hm:=xBg 10 (wS l);have hlen:=xCj 10 (wS l)
  have dec:∀ g,xDk g=true→xGj g=l→aK 10 (wS l)=g.formulas.map bA:=fun g h1 h2=>by
    rw[yV] at h2
    have hc:=xHv 10 (g.formulas.map bA) (fun x hx b hb=>by
      obtain⟨f,_,rfl⟩:=List.mem_map.1 hx
      exact xIq f b hb)
    rw[h2] at hc
    obtain⟨p,hp⟩:∃ p,l=p++[10]:=by
      cases hgf:g.formulas.reverse with
      | nil=>
        have:g.formulas=[]:=by simpa using hgf
        rw[this] at h2;exact absurd h2.symm hne
      | cons f r=>
        have:g.formulas=r.reverse++[f]:=by rw[← List.reverse_reverse g.formulas,hgf];simp
        rw[this] at h2;refine⟨((r.reverse.map bA).map fun x=>x++[10]).flatten++bA f,?_⟩;rw[← h2]
        simp
    rw[hp,xKm] at hc;rw[hp,xQm];exact List.append_cancel_right hc
  rcases xFi hN (aK 10 (wS l)) 0 [] (fun x hx=>by have:=hm x hx;omega) (by simp only[List.length_nil];omega) with ⟨fs,e1,e2,e3⟩ | ⟨e1,e2⟩
  · rw[e3,thn_nx,List.nil_append,sN,bnd_s,xCv]
    by_cases hw:xDk ⟨fs⟩=true∧xGj ⟨fs⟩=l
    · rw[if_pos hw.1,hw.2,beq_self_eq_true,if_neg (by simp)]
      refine⟨_,rfl,.inr ⟨hw.1,hw.2,rfl⟩,fun g h1 h2=>?_⟩;have h3:=(dec g h1 h2).symm.trans e1
      have h4:∀ f∈g.formulas,cM f=true:=by
        unfold xDk at h1
        rw[Bool.and_eq_true] at h1;exact List.all_eq_true.1 h1.2
      rw[← rW h4 e2 h3]
    · have:((if xDk ⟨fs⟩=true then xGj ⟨fs⟩ else [])==l)=false:=by
        rw[beq_eq_false_iff_ne]
        split
        · rename_i h;exact fun e=>hw ⟨h,e⟩
        · exact fun e=>hne e.symm
      rw[this,if_pos (by rfl)];refine⟨_,rfl,.inl rfl,fun g h1 h2=>?_⟩;have h3:=(dec g h1 h2).symm.trans e1
      have h4:∀ f∈g.formulas,cM f=true:=by
        unfold xDk at h1
        rw[Bool.and_eq_true] at h1;exact List.all_eq_true.1 h1.2
      rw[← rW h4 e2 h3] at hw;exact absurd ⟨h1,h2⟩ hw
  · rw[e2,thn_ret]
    refine⟨_,rfl,.inl rfl,fun g h1 h2=>?_⟩
    have h4:∀ f∈g.formulas,cM f=true:=by
      unfold xDk at h1
      rw[Bool.and_eq_true] at h1;exact List.all_eq_true.1 h1.2
    exact absurd (dec g h1 h2) (e1 _ h4)
end Go.Proofs.YtlommebgedmjdaaGreatDoor
