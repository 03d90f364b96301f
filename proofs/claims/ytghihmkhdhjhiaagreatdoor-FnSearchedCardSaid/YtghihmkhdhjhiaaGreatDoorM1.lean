import Derived.Test.YtghihmkhdhjhiaaGreatDoorH
namespace Go.Proofs.YtghihmkhdhjhiaaGreatDoor
set_option linter.unusedVariables false
set_option linter.unusedSimpArgs false
@[simp] theorem bnd_s {α β:Type} (x:α) (k:α→Option β):xZ (some x) k=k x:=rfl
@[simp] theorem bnd_n {α β:Type} (k:α→Option β):xZ none k=none:=rfl
@[simp] theorem thn_nx {σ ρ:Type} (s:σ) (k:σ→Option ρ):zW (some (.nx s)) k=k s:=rfl
@[simp] theorem thn_ret {σ ρ:Type} (r:ρ) (k:σ→Option ρ):zW (some (.ret r)) k=some r:=rfl
@[simp] theorem forL_nil' {α σ ρ:Type} (b:Nat→α→σ→Option (Ctl σ ρ)) (k:Nat) (s:σ):qR b [] k s=some (.nx s):=rfl
theorem aB {α σ ρ:Type} {b:Nat→α→σ→Option (Ctl σ ρ)} {x:α} {l:List α} {k:Nat} {s s':σ} (h:b k x s=some (.go s')):qR b (x::l) k s=qR b l (k+1) s':=by simp only[qR,h]
theorem fU {α σ ρ:Type} {b:Nat→α→σ→Option (Ctl σ ρ)} {x:α} {l:List α} {k:Nat} {s:σ} {r:ρ} (h:b k x s=some (.ret r)):qR b (x::l) k s=some (.ret r):=by simp only[qR,h]
theorem nZ {σ ρ:Type} {b:Nat→σ→Option (Ctl σ ρ)} {m k:Nat} {s s':σ} (h:b k s=some (.go s')):dQ b (m+1) k s=dQ b m (k+1) s':=by simp only[dQ,h]
theorem xGh {σ ρ:Type} {b:Nat→σ→Option (Ctl σ ρ)} {m k:Nat} {s:σ} {r:ρ} (h:b k s=some (.ret r)):dQ b (m+1) k s=some (.ret r):=by simp only[dQ,h]
theorem gA {σ ρ:Type} {b:σ→Option (Ctl σ ρ)} {m:Nat} {s s':σ} (h:b s=some (.go s')):fE b (m+1) s=fE b m s':=by simp only[fE,h]
theorem cP {σ ρ:Type} {b:σ→Option (Ctl σ ρ)} {m:Nat} {s s':σ} (h:b s=some (.brk s')):fE b (m+1) s=some (.nx s'):=by simp only[fE,h]
theorem jH {σ ρ:Type} {b:σ→Option (Ctl σ ρ)} {m:Nat} {s:σ} {r:ρ} (h:b s=some (.ret r)):fE b (m+1) s=some (.ret r):=by simp only[fE,h]
def fnd {α ρ:Type} (q:Nat→α→Option ρ):List α→Nat→Option ρ
  | [],_=>none
  | x::l,k=>match q k x with | some r=>some r | none=>fnd q l (k+1)
def pE {ρ:Type}:Option ρ→Ctl Unit ρ
  | some r=>.ret r
  | none=>.go ()
def uJ {ρ:Type}:Option ρ→Out Unit ρ
  | some r=>.ret r
  | none=>.nx ()
theorem dI {α ρ:Type} (q:Nat→α→Option ρ) {b:Nat→α→Unit→Option (Ctl Unit ρ)}:∀ {l:List α} {k:Nat},(∀ j x,l[j]?=some x→b (k+j) x ()=some (pE (q (k+j) x)))→qR b l k ()=some (uJ (fnd q l k))
  | [],_,_=>rfl
  | x::l,k,h=>by
    have h0:=h 0 x rfl;rw[Nat.add_zero] at h0
    unfold fnd
    cases hq:q k x with
    | some r=>rw[hq] at h0;exact fU h0
    | none=>
      rw[hq] at h0;rw[aB (s':=()) h0];exact dI q (fun j y hj=>by rw[Nat.add_assoc,Nat.add_comm 1 j];exact h (j+1) y hj)
theorem mF {α ρ:Type} {p:α→Bool} {r:ρ}:∀ {l:List α} {k:Nat},fnd (fun _ x=>if p x then some r else none) l k=if l.any p then some r else none
  | [],_=>rfl
  | x::l,k=>by
    unfold fnd
    by_cases h:p x=true
    · simp [h]
    · have hp:p x=false:=by simpa using h
      simp only[hp,List.any_cons,Bool.false_or];exact mF
theorem xDo {α ρ:Type} {f g:Nat→α→Unit→Option (Ctl Unit ρ)} (Inv:Nat→Prop) (Q:ρ→Prop):∀ {l:List α} {k:Nat},Inv k→(∀ j x,l[j]?=some x→Inv (k+j)→∃ q:Option ρ,f (k+j) x ()=some (pE q)∧g (k+j) x ()=some (pE q)∧(q=none→Inv (k+j+1))∧∀ r,q=some r→Q r) →
    ∃ q:Option ρ,qR f l k ()=some (uJ q)∧qR g l k ()=some (uJ q)∧(q=none→Inv (k+l.length))∧∀ r,q=some r→Q r
  | [],_,hi,_=>⟨none,rfl,rfl,fun _=>hi,fun _ h=>nomatch h⟩
  | x::l,k,hi,h=>by
    obtain⟨q,hf,hg,hq,hQ⟩:=h 0 x rfl hi;rw[Nat.add_zero] at hf hg hq
    cases q with
    | some r=>exact⟨some r,fU hf,fU hg,(fun h=>nomatch h),hQ⟩
    | none=>
      rw[aB (s':=()) hf,aB (s':=()) hg]
      obtain⟨q,h1,h2,h3,h4⟩:=xDo (l:=l) (k:=k+1) Inv Q (hq rfl) (fun j y hj hj2=>by
        rw[Nat.add_assoc,Nat.add_comm 1 j] at hj2 ⊢
        exact h (j+1) y hj hj2)
      exact⟨q,h1,h2,(fun e=>by have:=h3 e;rw[List.length_cons,Nat.add_comm l.length 1,← Nat.add_assoc];exact this),h4⟩
theorem dT {α:Type} {l:List α} {i:Int} {x:α} (h0:0≤i) (h:l[i.toNat]?=some x):ix l i=some x:=by unfold ix;rw[if_pos h0];exact h
theorem vH {α:Type} {l:List α} {i:Nat} {x:α} (h:l[i]?=some x):ix l (i:Int)=some x:=dT (by omega) (by simpa using h)
theorem zT {x:Int} (h0: -9223372036854775808≤x) (h1:x≤9223372036854775807):ck x=some x:=if_pos ⟨h0,h1⟩
theorem bM {α:Type} {l m:List α} (h:(l.length+m.length)*1024≤140737488355328):ap l m=some (l++m):=if_pos h
theorem lX {α : Type} (l : List α) (p : α → Bool) (f : α → Option Bool) (hf : ∀ x ∈ l, f x = some (p x)) : ∃ i : Int, zW (qR (σ := Unit) (ρ := Int) (fun (k : Nat) (x : α) (s : Unit) =>
      match s with
      | _=>
        xZ (f x) fun z=>
        if z then
          some (.ret ((k:Int)))
        else
          some (.go ())) l 0 ()) (fun _=>some (-1))=some i∧decide (0≤i)=l.any p:=by
  rw[dI (fun k x=>if p x then some (k:Int) else none) (fun j x hj=>by
    simp only[hf x (List.mem_of_getElem? hj),bnd_s]
    by_cases hv:p x=true
    · simp [hv,pE]
    · simp [hv,pE])]
  have key:∀ (l:List α) (k:Nat),(l.any p=true∧∃ i:Nat,fnd (fun k x=>if p x then some (k:Int) else none) l k=some (i:Int))∨(l.any p=false∧fnd (fun k x=>if p x then some (k:Int) else none) l k=none):=by
    intro l
    induction l with
    | nil=>intro k;exact .inr ⟨rfl,rfl⟩
    | cons x l ih=>
      intro k
      unfold fnd
      by_cases hv:p x=true
      · exact .inl ⟨by simp [hv],k,by simp [hv]⟩
      · have hv':p x=false:=by simpa using hv
        rcases ih (k+1) with ⟨h1,i,h2⟩ | ⟨h1,h2⟩
        · exact .inl ⟨by simp [h1],i,by simp [hv',h2]⟩
        · exact .inr ⟨by simp [h1,hv'],by simp [hv',h2]⟩
  rcases key l 0 with ⟨h1,i,h2⟩ | ⟨h1,h2⟩
  · rw[h2];exact⟨i,rfl,by simp [h1]⟩
  · rw[h2];exact⟨-1,rfl,by simp [h1]⟩
theorem xAs {α σ ρ ρ':Type} {f:Nat→α→σ→Option (Ctl σ ρ)} {g:Nat→α→σ→Option (Ctl σ ρ')} (Inv:Nat→σ→Prop):∀ {l:List α} {k:Nat} {s:σ},Inv k s→(∀ j x s,l[j]?=some x→Inv (k+j) s→∃ s',f (k+j) x s=some (.go s')∧g (k+j) x s=some (.go s')∧Inv (k+j+1) s') →
    ∃ s',qR f l k s=some (.nx s')∧qR g l k s=some (.nx s')∧Inv (k+l.length) s'
  | [],_,s,hi,_=>⟨s,rfl,rfl,hi⟩
  | x::l,k,s,hi,h=>by
    obtain⟨s',hf,hg,hq⟩:=h 0 x s rfl hi;rw[Nat.add_zero] at hf hg hq;rw[aB hf,aB hg]
    obtain⟨s2,h1,h2,h3⟩:=xAs (l:=l) (k:=k+1) Inv hq (fun j y s hj hj2=>by
      rw[Nat.add_assoc,Nat.add_comm 1 j] at hj2 ⊢
      exact h (j+1) y s hj hj2)
    exact⟨s2,h1,h2,by rw[List.length_cons,Nat.add_comm l.length 1,← Nat.add_assoc];exact h3⟩
end Go.Proofs.YtghihmkhdhjhiaaGreatDoor
