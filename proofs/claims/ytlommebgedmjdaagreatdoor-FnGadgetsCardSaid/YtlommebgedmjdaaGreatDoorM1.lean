import Derived.Test.YtlommebgedmjdaaGreatDoorH
namespace Go.Proofs.YtlommebgedmjdaaGreatDoor
set_option linter.unusedVariables false
set_option linter.unusedSimpArgs false
@[simp] theorem bnd_s {α β:Type} (x:α) (k:α→Option β):xK (some x) k=k x:=rfl
@[simp] theorem bnd_n {α β:Type} (k:α→Option β):xK none k=none:=rfl
@[simp] theorem thn_nx {σ ρ:Type} (s:σ) (k:σ→Option ρ):vC (some (.nx s)) k=k s:=rfl
@[simp] theorem thn_ret {σ ρ:Type} (r:ρ) (k:σ→Option ρ):vC (some (.ret r)) k=some r:=rfl
@[simp] theorem forL_nil' {α σ ρ:Type} (b:Nat→α→σ→Option (Ctl σ ρ)) (k:Nat) (s:σ):oM b [] k s=some (.nx s):=rfl
theorem qV {α σ ρ:Type} {b:Nat→α→σ→Option (Ctl σ ρ)} {x:α} {l:List α} {k:Nat} {s s':σ} (h:b k x s=some (.go s')):oM b (x::l) k s=oM b l (k+1) s':=by simp only[oM,h]
theorem iV {α σ ρ:Type} {b:Nat→α→σ→Option (Ctl σ ρ)} {x:α} {l:List α} {k:Nat} {s:σ} {r:ρ} (h:b k x s=some (.ret r)):oM b (x::l) k s=some (.ret r):=by simp only[oM,h]
theorem fL {σ ρ:Type} {b:Nat→σ→Option (Ctl σ ρ)} {m k:Nat} {s s':σ} (h:b k s=some (.go s')):aY b (m+1) k s=aY b m (k+1) s':=by simp only[aY,h]
theorem xOa {σ ρ:Type} {b:Nat→σ→Option (Ctl σ ρ)} {m k:Nat} {s:σ} {r:ρ} (h:b k s=some (.ret r)):aY b (m+1) k s=some (.ret r):=by simp only[aY,h]
theorem uH {σ ρ:Type} {b:σ→Option (Ctl σ ρ)} {m:Nat} {s s':σ} (h:b s=some (.go s')):whl b (m+1) s=whl b m s':=by simp only[whl,h]
theorem wB {σ ρ:Type} {b:σ→Option (Ctl σ ρ)} {m:Nat} {s s':σ} (h:b s=some (.brk s')):whl b (m+1) s=some (.nx s'):=by simp only[whl,h]
theorem xYm {σ ρ:Type} {b:σ→Option (Ctl σ ρ)} {m:Nat} {s:σ} {r:ρ} (h:b s=some (.ret r)):whl b (m+1) s=some (.ret r):=by simp only[whl,h]
def fnd {α ρ:Type} (q:Nat→α→Option ρ):List α→Nat→Option ρ
  | [],_=>none
  | x::l,k=>match q k x with | some r=>some r | none=>fnd q l (k+1)
def yW {ρ:Type}:Option ρ→Ctl Unit ρ
  | some r=>.ret r
  | none=>.go ()
def xBp {ρ:Type}:Option ρ→Out Unit ρ
  | some r=>.ret r
  | none=>.nx ()
theorem dW {α ρ:Type} (q:Nat→α→Option ρ) {b:Nat→α→Unit→Option (Ctl Unit ρ)}:∀ {l:List α} {k:Nat},(∀ j x,l[j]?=some x→b (k+j) x ()=some (yW (q (k+j) x)))→oM b l k ()=some (xBp (fnd q l k))
  | [],_,_=>rfl
  | x::l,k,h=>by
    have h0:=h 0 x rfl;rw[Nat.add_zero] at h0
    unfold fnd
    cases hq:q k x with
    | some r=>rw[hq] at h0;exact iV h0
    | none=>
      rw[hq] at h0;rw[qV (s':=()) h0];exact dW q (fun j y hj=>by rw[Nat.add_assoc,Nat.add_comm 1 j];exact h (j+1) y hj)
theorem xAy {α ρ:Type} {p:α→Bool} {r:ρ}:∀ {l:List α} {k:Nat},fnd (fun _ x=>if p x then some r else none) l k=if l.any p then some r else none
  | [],_=>rfl
  | x::l,k=>by
    unfold fnd
    by_cases h:p x=true
    · simp [h]
    · have hp:p x=false:=by simpa using h
      simp only[hp,List.any_cons,Bool.false_or];exact xAy
theorem xLg {α ρ:Type} {f g:Nat→α→Unit→Option (Ctl Unit ρ)} (Inv:Nat→Prop) (Q:ρ→Prop):∀ {l:List α} {k:Nat},Inv k→(∀ j x,l[j]?=some x→Inv (k+j)→∃ q:Option ρ,f (k+j) x ()=some (yW q)∧g (k+j) x ()=some (yW q)∧(q=none→Inv (k+j+1))∧∀ r,q=some r→Q r) →
    ∃ q:Option ρ,oM f l k ()=some (xBp q)∧oM g l k ()=some (xBp q)∧(q=none→Inv (k+l.length))∧∀ r,q=some r→Q r
  | [],_,hi,_=>⟨none,rfl,rfl,fun _=>hi,fun _ h=>nomatch h⟩
  | x::l,k,hi,h=>by
    obtain⟨q,hf,hg,hq,hQ⟩:=h 0 x rfl hi;rw[Nat.add_zero] at hf hg hq
    cases q with
    | some r=>exact⟨some r,iV hf,iV hg,(fun h=>nomatch h),hQ⟩
    | none=>
      rw[qV (s':=()) hf,qV (s':=()) hg]
      obtain⟨q,h1,h2,h3,h4⟩:=xLg (l:=l) (k:=k+1) Inv Q (hq rfl) (fun j y hj hj2=>by
        rw[Nat.add_assoc,Nat.add_comm 1 j] at hj2 ⊢
        exact h (j+1) y hj hj2)
      exact⟨q,h1,h2,(fun e=>by have:=h3 e;rw[List.length_cons,Nat.add_comm l.length 1,← Nat.add_assoc];exact this),h4⟩
theorem gQ {α:Type} {l:List α} {i:Int} {x:α} (h0:0≤i) (h:l[i.toNat]?=some x):ix l i=some x:=by unfold ix;rw[if_pos h0];exact h
theorem zO {α:Type} {l:List α} {i:Nat} {x:α} (h:l[i]?=some x):ix l (i:Int)=some x:=gQ (by omega) (by simpa using h)
theorem kW {x:Int} (h0: -9223372036854775808≤x) (h1:x≤9223372036854775807):ck x=some x:=if_pos ⟨h0,h1⟩
theorem zD {α:Type} {l m:List α} (h:(l.length+m.length)*1024≤140737488355328):ap l m=some (l++m):=if_pos h
theorem rD {α : Type} (l : List α) (p : α → Bool) (f : α → Option Bool) (hf : ∀ x ∈ l, f x = some (p x)) : ∃ i : Int, vC (oM (σ := Unit) (ρ := Int) (fun (k : Nat) (x : α) (s : Unit) =>
      match s with
      | _=>
        xK (f x) fun z=>
        if z then
          some (.ret ((k:Int)))
        else
          some (.go ())) l 0 ()) (fun _=>some (-1))=some i∧decide (0≤i)=l.any p:=by
  rw[dW (fun k x=>if p x then some (k:Int) else none) (fun j x hj=>by
    simp only[hf x (List.mem_of_getElem? hj),bnd_s]
    by_cases hv:p x=true
    · simp [hv,yW]
    · simp [hv,yW])]
  have key:∀ (l:List α) (k:Nat),(l.any p=true∧∃ i:Nat,fnd (fun k x=>if p x then some (k:Int) else none) l k=some (i:Int))∨(l.any p=false∧fnd (fun k x=>if p x then some (k:Int) else none) l k=none):=by
    intro l
    induction l with
    | nil=>intro k;exact .inr ⟨rfl,rfl⟩
    | cons x l ih=>
      intro k
      unfold fnd
      by_cases hv:p x=true
      · exact .inl ⟨by simp [hv],k,by simp [hv]⟩
      · have hv':p x=false:=by simpa using hv
        rcases ih (k+1) with ⟨h1,i,h2⟩ | ⟨h1,h2⟩
        · exact .inl ⟨by simp [h1],i,by simp [hv',h2]⟩
        · exact .inr ⟨by simp [h1,hv'],by simp [hv',h2]⟩
  rcases key l 0 with ⟨h1,i,h2⟩ | ⟨h1,h2⟩
  · rw[h2];exact⟨i,rfl,by simp [h1]⟩
  · rw[h2];exact⟨-1,rfl,by simp [h1]⟩
end Go.Proofs.YtlommebgedmjdaaGreatDoor
