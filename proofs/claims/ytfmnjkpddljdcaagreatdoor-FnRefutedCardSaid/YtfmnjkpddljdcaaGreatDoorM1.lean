import Derived.Test.YtfmnjkpddljdcaaGreatDoorH
namespace Go.Proofs.YtfmnjkpddljdcaaGreatDoor
set_option linter.unusedVariables false
set_option linter.unusedSimpArgs false
@[simp] theorem bnd_s {α β:Type} (x:α) (k:α→Option β):xY (some x) k=k x:=rfl
@[simp] theorem bnd_n {α β:Type} (k:α→Option β):xY none k=none:=rfl
@[simp] theorem thn_nx {σ ρ:Type} (s:σ) (k:σ→Option ρ):kY (some (.nx s)) k=k s:=rfl
@[simp] theorem thn_ret {σ ρ:Type} (r:ρ) (k:σ→Option ρ):kY (some (.ret r)) k=some r:=rfl
@[simp] theorem forL_nil' {α σ ρ:Type} (b:Nat→α→σ→Option (Ctl σ ρ)) (k:Nat) (s:σ):qW b [] k s=some (.nx s):=rfl
theorem aJ {α σ ρ:Type} {b:Nat→α→σ→Option (Ctl σ ρ)} {x:α} {l:List α} {k:Nat} {s s':σ} (h:b k x s=some (.go s')):qW b (x::l) k s=qW b l (k+1) s':=by simp only[qW,h]
theorem jL {α σ ρ:Type} {b:Nat→α→σ→Option (Ctl σ ρ)} {x:α} {l:List α} {k:Nat} {s:σ} {r:ρ} (h:b k x s=some (.ret r)):qW b (x::l) k s=some (.ret r):=by simp only[qW,h]
theorem sY {σ ρ:Type} {b:Nat→σ→Option (Ctl σ ρ)} {m k:Nat} {s s':σ} (h:b k s=some (.go s')):eJ b (m+1) k s=eJ b m (k+1) s':=by simp only[eJ,h]
theorem xKz {σ ρ:Type} {b:Nat→σ→Option (Ctl σ ρ)} {m k:Nat} {s:σ} {r:ρ} (h:b k s=some (.ret r)):eJ b (m+1) k s=some (.ret r):=by simp only[eJ,h]
theorem mY {σ ρ:Type} {b:σ→Option (Ctl σ ρ)} {m:Nat} {s s':σ} (h:b s=some (.go s')):lD b (m+1) s=lD b m s':=by simp only[lD,h]
theorem iP {σ ρ:Type} {b:σ→Option (Ctl σ ρ)} {m:Nat} {s s':σ} (h:b s=some (.brk s')):lD b (m+1) s=some (.nx s'):=by simp only[lD,h]
theorem wN {σ ρ:Type} {b:σ→Option (Ctl σ ρ)} {m:Nat} {s:σ} {r:ρ} (h:b s=some (.ret r)):lD b (m+1) s=some (.ret r):=by simp only[lD,h]
def fnd {α ρ:Type} (q:Nat→α→Option ρ):List α→Nat→Option ρ
  | [],_=>none
  | x::l,k=>match q k x with | some r=>some r | none=>fnd q l (k+1)
def wR {ρ:Type}:Option ρ→Ctl Unit ρ
  | some r=>.ret r
  | none=>.go ()
def xHp {ρ:Type}:Option ρ→Out Unit ρ
  | some r=>.ret r
  | none=>.nx ()
theorem gZ {α ρ:Type} (q:Nat→α→Option ρ) {b:Nat→α→Unit→Option (Ctl Unit ρ)}:∀ {l:List α} {k:Nat},(∀ j x,l[j]?=some x→b (k+j) x ()=some (wR (q (k+j) x)))→qW b l k ()=some (xHp (fnd q l k))
  | [],_,_=>rfl
  | x::l,k,h=>by
    have h0:=h 0 x rfl;rw[Nat.add_zero] at h0
    unfold fnd
    cases hq:q k x with
    | some r=>rw[hq] at h0;exact jL h0
    | none=>
      rw[hq] at h0;rw[aJ (s':=()) h0];exact gZ q (fun j y hj=>by rw[Nat.add_assoc,Nat.add_comm 1 j];exact h (j+1) y hj)
theorem uT {α ρ:Type} {p:α→Bool} {r:ρ}:∀ {l:List α} {k:Nat},fnd (fun _ x=>if p x then some r else none) l k=if l.any p then some r else none
  | [],_=>rfl
  | x::l,k=>by
    unfold fnd
    by_cases h:p x=true
    · simp [h]
    · have hp:p x=false:=by simpa using h
      simp only[hp,List.any_cons,Bool.false_or];exact uT
theorem xIl {α ρ:Type} {f g:Nat→α→Unit→Option (Ctl Unit ρ)} (Inv:Nat→Prop) (Q:ρ→Prop):∀ {l:List α} {k:Nat},Inv k→(∀ j x,l[j]?=some x→Inv (k+j)→∃ q:Option ρ,f (k+j) x ()=some (wR q)∧g (k+j) x ()=some (wR q)∧(q=none→Inv (k+j+1))∧∀ r,q=some r→Q r) →
    ∃ q:Option ρ,qW f l k ()=some (xHp q)∧qW g l k ()=some (xHp q)∧(q=none→Inv (k+l.length))∧∀ r,q=some r→Q r
  | [],_,hi,_=>⟨none,rfl,rfl,fun _=>hi,fun _ h=>nomatch h⟩
  | x::l,k,hi,h=>by
    obtain⟨q,hf,hg,hq,hQ⟩:=h 0 x rfl hi;rw[Nat.add_zero] at hf hg hq
    cases q with
    | some r=>exact⟨some r,jL hf,jL hg,(fun h=>nomatch h),hQ⟩
    | none=>
      rw[aJ (s':=()) hf,aJ (s':=()) hg]
      obtain⟨q,h1,h2,h3,h4⟩:=xIl (l:=l) (k:=k+1) Inv Q (hq rfl) (fun j y hj hj2=>by
        rw[Nat.add_assoc,Nat.add_comm 1 j] at hj2 ⊢
        exact h (j+1) y hj hj2)
      exact⟨q,h1,h2,(fun e=>by have:=h3 e;rw[List.length_cons,Nat.add_comm l.length 1,← Nat.add_assoc];exact this),h4⟩
theorem dX {α:Type} {l:List α} {i:Int} {x:α} (h0:0≤i) (h:l[i.toNat]?=some x):ix l i=some x:=by unfold ix;rw[if_pos h0];exact h
theorem zI {α:Type} {l:List α} {i:Nat} {x:α} (h:l[i]?=some x):ix l (i:Int)=some x:=dX (by omega) (by simpa using h)
theorem kI {x:Int} (h0: -9223372036854775808≤x) (h1:x≤9223372036854775807):ck x=some x:=if_pos ⟨h0,h1⟩
theorem bS {α:Type} {l m:List α} (h:(l.length+m.length)*1024≤140737488355328):ap l m=some (l++m):=if_pos h
theorem rS {α : Type} (l : List α) (p : α → Bool) (f : α → Option Bool) (hf : ∀ x ∈ l, f x = some (p x)) : ∃ i : Int, kY (qW (σ := Unit) (ρ := Int) (fun (k : Nat) (x : α) (s : Unit) =>
      match s with
      | _=>
        xY (f x) fun z=>
        if z then
          some (.ret ((k:Int)))
        else
          some (.go ())) l 0 ()) (fun _=>some (-1))=some i∧decide (0≤i)=l.any p:=by
  rw[gZ (fun k x=>if p x then some (k:Int) else none) (fun j x hj=>by
    simp only[hf x (List.mem_of_getElem? hj),bnd_s]
    by_cases hv:p x=true
    · simp [hv,wR]
    · simp [hv,wR])]
  have key:∀ (l:List α) (k:Nat),(l.any p=true∧∃ i:Nat,fnd (fun k x=>if p x then some (k:Int) else none) l k=some (i:Int))∨(l.any p=false∧fnd (fun k x=>if p x then some (k:Int) else none) l k=none):=by
    intro l
    induction l with
    | nil=>intro k;exact .inr ⟨rfl,rfl⟩
    | cons x l ih=>
      intro k
      unfold fnd
      by_cases hv:p x=true
      · exact .inl ⟨by simp [hv],k,by simp [hv]⟩
      · have hv':p x=false:=by simpa using hv
        rcases ih (k+1) with ⟨h1,i,h2⟩ | ⟨h1,h2⟩
        · exact .inl ⟨by simp [h1],i,by simp [hv',h2]⟩
        · exact .inr ⟨by simp [h1,hv'],by simp [hv',h2]⟩
  rcases key l 0 with ⟨h1,i,h2⟩ | ⟨h1,h2⟩
  · rw[h2];exact⟨i,rfl,by simp [h1]⟩
  · rw[h2];exact⟨-1,rfl,by simp [h1]⟩
theorem xFm {α σ ρ ρ':Type} {f:Nat→α→σ→Option (Ctl σ ρ)} {g:Nat→α→σ→Option (Ctl σ ρ')} (Inv:Nat→σ→Prop):∀ {l:List α} {k:Nat} {s:σ},Inv k s→(∀ j x s,l[j]?=some x→Inv (k+j) s→∃ s',f (k+j) x s=some (.go s')∧g (k+j) x s=some (.go s')∧Inv (k+j+1) s') →
    ∃ s',qW f l k s=some (.nx s')∧qW g l k s=some (.nx s')∧Inv (k+l.length) s'
  | [],_,s,hi,_=>⟨s,rfl,rfl,hi⟩
  | x::l,k,s,hi,h=>by
    obtain⟨s',hf,hg,hq⟩:=h 0 x s rfl hi;rw[Nat.add_zero] at hf hg hq;rw[aJ hf,aJ hg]
    obtain⟨s2,h1,h2,h3⟩:=xFm (l:=l) (k:=k+1) Inv hq (fun j y s hj hj2=>by
      rw[Nat.add_assoc,Nat.add_comm 1 j] at hj2 ⊢
      exact h (j+1) y s hj hj2)
    exact⟨s2,h1,h2,by rw[List.length_cons,Nat.add_comm l.length 1,← Nat.add_assoc];exact h3⟩
end Go.Proofs.YtfmnjkpddljdcaaGreatDoor
