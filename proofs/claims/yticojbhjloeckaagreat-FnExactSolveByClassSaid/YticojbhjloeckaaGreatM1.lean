import Derived.Test.YticojbhjloeckaaGreatH
namespace Go.Proofs.YticojbhjloeckaaGreat
set_option linter.unusedVariables false
set_option linter.unusedSimpArgs false
@[simp] theorem bnd_s {α β:Type} (x:α) (k:α→Option β):xX (some x) k=k x:=rfl
@[simp] theorem bnd_n {α β:Type} (k:α→Option β):xX none k=none:=rfl
@[simp] theorem thn_nx {σ ρ:Type} (s:σ) (k:σ→Option ρ):vO (some (.nx s)) k=k s:=rfl
@[simp] theorem thn_ret {σ ρ:Type} (r:ρ) (k:σ→Option ρ):vO (some (.ret r)) k=some r:=rfl
@[simp] theorem forL_nil' {α σ ρ:Type} (b:Nat→α→σ→Option (Ctl σ ρ)) (k:Nat) (s:σ):qK b [] k s=some (.nx s):=rfl
theorem forL_go {α σ ρ:Type} {b:Nat→α→σ→Option (Ctl σ ρ)} {x:α} {l:List α} {k:Nat} {s s':σ} (h:b k x s=some (.go s')):qK b (x::l) k s=qK b l (k+1) s':=by simp only[qK,h]
theorem forL_rt {α σ ρ:Type} {b:Nat→α→σ→Option (Ctl σ ρ)} {x:α} {l:List α} {k:Nat} {s:σ} {r:ρ} (h:b k x s=some (.ret r)):qK b (x::l) k s=some (.ret r):=by simp only[qK,h]
theorem forI_go {σ ρ:Type} {b:Nat→σ→Option (Ctl σ ρ)} {m k:Nat} {s s':σ} (h:b k s=some (.go s')):vQ b (m+1) k s=vQ b m (k+1) s':=by simp only[vQ,h]
theorem forI_rt {σ ρ:Type} {b:Nat→σ→Option (Ctl σ ρ)} {m k:Nat} {s:σ} {r:ρ} (h:b k s=some (.ret r)):vQ b (m+1) k s=some (.ret r):=by simp only[vQ,h]
theorem whl_go {σ ρ:Type} {b:σ→Option (Ctl σ ρ)} {m:Nat} {s s':σ} (h:b s=some (.go s')):whl b (m+1) s=whl b m s':=by simp only[whl,h]
theorem whl_brk {σ ρ:Type} {b:σ→Option (Ctl σ ρ)} {m:Nat} {s s':σ} (h:b s=some (.brk s')):whl b (m+1) s=some (.nx s'):=by simp only[whl,h]
theorem whl_rt {σ ρ:Type} {b:σ→Option (Ctl σ ρ)} {m:Nat} {s:σ} {r:ρ} (h:b s=some (.ret r)):whl b (m+1) s=some (.ret r):=by simp only[whl,h]
def fnd {α ρ:Type} (q:Nat→α→Option ρ):List α→Nat→Option ρ
  | [],_=>none
  | x::l,k=>match q k x with | some r=>some r | none=>fnd q l (k+1)
def ctlO {ρ:Type}:Option ρ→Ctl Unit ρ
  | some r=>.ret r
  | none=>.go ()
def outO {ρ:Type}:Option ρ→Out Unit ρ
  | some r=>.ret r
  | none=>.nx ()
theorem kR {α ρ:Type} (q:Nat→α→Option ρ) {b:Nat→α→Unit→Option (Ctl Unit ρ)}:∀ {l:List α} {k:Nat},(∀ j x,l[j]?=some x→b (k+j) x ()=some (ctlO (q (k+j) x)))→qK b l k ()=some (outO (fnd q l k))
  | [],_,_=>rfl
  | x::l,k,h=>by
    have h0:=h 0 x rfl;rw[Nat.add_zero] at h0
    unfold fnd
    cases hq:q k x with
    | some r=>rw[hq] at h0;exact forL_rt h0
    | none=>
      rw[hq] at h0;rw[forL_go (s':=()) h0];exact kR q (fun j y hj=>by rw[Nat.add_assoc,Nat.add_comm 1 j];exact h (j+1) y hj)
theorem fnd_any {α ρ:Type} {p:α→Bool} {r:ρ}:∀ {l:List α} {k:Nat},fnd (fun _ x=>if p x then some r else none) l k=if l.any p then some r else none
  | [],_=>rfl
  | x::l,k=>by
    unfold fnd
    by_cases h:p x=true
    · simp [h]
    · have hp:p x=false:=by simpa using h
      simp only[hp,List.any_cons,Bool.false_or];exact fnd_any
theorem forL_two {α ρ:Type} {f g:Nat→α→Unit→Option (Ctl Unit ρ)} (Inv:Nat→Prop) (Q:ρ→Prop):∀ {l:List α} {k:Nat},Inv k→(∀ j x,l[j]?=some x→Inv (k+j)→∃ q:Option ρ,f (k+j) x ()=some (ctlO q)∧g (k+j) x ()=some (ctlO q)∧(q=none→Inv (k+j+1))∧∀ r,q=some r→Q r) →
    ∃ q:Option ρ,qK f l k ()=some (outO q)∧qK g l k ()=some (outO q)∧(q=none→Inv (k+l.length))∧∀ r,q=some r→Q r
  | [],_,hi,_=>⟨none,rfl,rfl,fun _=>hi,fun _ h=>nomatch h⟩
  | x::l,k,hi,h=>by
    obtain⟨q,hf,hg,hq,hQ⟩:=h 0 x rfl hi;rw[Nat.add_zero] at hf hg hq
    cases q with
    | some r=>exact⟨some r,forL_rt hf,forL_rt hg,(fun h=>nomatch h),hQ⟩
    | none=>
      rw[forL_go (s':=()) hf,forL_go (s':=()) hg]
      obtain⟨q,h1,h2,h3,h4⟩:=forL_two (l:=l) (k:=k+1) Inv Q (hq rfl) (fun j y hj hj2=>by
        rw[Nat.add_assoc,Nat.add_comm 1 j] at hj2 ⊢
        exact h (j+1) y hj hj2)
      exact⟨q,h1,h2,(fun e=>by have:=h3 e;rw[List.length_cons,Nat.add_comm l.length 1,← Nat.add_assoc];exact this),h4⟩
theorem forI_two {σ ρ ρ':Type} {f:Nat→σ→Option (Ctl σ ρ)} {g:Nat→σ→Option (Ctl σ ρ')} (Inv:Nat→σ→Prop):∀ {m k:Nat} {s:σ},Inv k s→(∀ j s,k≤j→j<k+m→Inv j s→∃ s',f j s=some (.go s')∧g j s=some (.go s')∧Inv (j+1) s') →
    ∃ s',vQ f m k s=some (.nx s')∧vQ g m k s=some (.nx s')∧Inv (k+m) s'
  | 0,_,s,hi,_=>⟨s,rfl,rfl,hi⟩
  | m+1,k,s,hi,h=>by
    obtain⟨s',hf,hg,hq⟩:=h k s (Nat.le_refl _) (by omega) hi;rw[forI_go hf,forI_go hg];obtain⟨s2,h1,h2,h3⟩:=forI_two (m:=m) (k:=k+1) Inv hq (fun j s hj hj2 hi=>h j s (by omega) (by omega) hi);exact⟨s2,h1,h2,by rw[show k+(m+1)=k+1+m by omega];exact h3⟩
def sumI (f:Nat→Int):Nat→Nat→Int→Int
  | 0,_,s=>s
  | m+1,k,s=>sumI f m (k+1) (s+f k)
theorem sumI_add (f:Nat→Int):∀ (m k:Nat) (s a:Int),sumI f m k (s+a)=a+sumI f m k s
  | 0,_,s,a=>by unfold sumI;omega
  | m+1,k,s,a=>by
    unfold sumI
    rw[show s+a+f k=s+f k+a by omega];exact sumI_add f m (k+1) _ a
theorem sumI_le (f:Nat→Int) (B:Int):∀ (m k:Nat) (s:Int),(∀ j,k≤j→j<k+m→0≤f j∧f j≤B)→s≤sumI f m k s∧sumI f m k s≤s+m*B
  | 0,_,s,_=>by unfold sumI;simp
  | m+1,k,s,h=>by
    unfold sumI
    have h1:=sumI_le f B m (k+1) (s+f k) (fun j h1 h2=>h j (by omega) (by omega));have h2:=h k (Nat.le_refl _) (by omega)
    have:((m+1:Nat):Int)*B=m*B+B:=by push_cast;rw[Int.add_mul,Int.one_mul]
    omega
theorem forI_sum {ρ:Type} {b:Nat→Int→Option (Ctl Int ρ)} (f:Nat→Int) (B M:Int):∀ {m k:Nat} {s:Int},0≤s→s+m*B≤M→(∀ j,k≤j→j<k+m→0≤f j∧f j≤B)→(∀ j s,k≤j→j<k+m→0≤s→s+f j≤M→b j s=some (.go (s+f j)))→vQ b m k s=some (.nx (sumI f m k s))
  | 0,_,_,_,_,_,_=>rfl
  | m+1,k,s,h0,hM,hf,hb=>by
    have h2:=hf k (Nat.le_refl _) (by omega)
    have h3:((m+1:Nat):Int)*B=m*B+B:=by push_cast;rw[Int.add_mul,Int.one_mul]
    have h4:0≤(m:Int)*B:=Int.mul_nonneg (by omega) (by omega)
    unfold sumI
    rw[forI_go (hb k s (Nat.le_refl _) (by omega) h0 (by omega))];exact forI_sum f B M (by omega) (by omega) (fun j h1 h2=>hf j (by omega) (by omega)) (fun j s h1 h2=>hb j s (by omega) (by omega))
theorem forL_sum {α ρ:Type} {b:Nat→α→Int→Option (Ctl Int ρ)} (f:Nat→Int) (B M:Int):∀ {l:List α} {k:Nat} {s:Int},0≤s→s+l.length*B≤M→(∀ j,k≤j→j<k+l.length→0≤f j∧f j≤B)→(∀ j x s,l[j]?=some x→0≤s→s+f (k+j)≤M→b (k+j) x s=some (.go (s+f (k+j))))→qK b l k s=some (.nx (sumI f l.length k s))
  | [],_,_,_,_,_,_=>rfl
  | x::l,k,s,h0,hM,hf,hb=>by
    rw[List.length_cons] at *;have h2:=hf k (Nat.le_refl _) (by omega)
    have h3:((l.length+1:Nat):Int)*B=l.length*B+B:=by push_cast;rw[Int.add_mul,Int.one_mul]
    have h4:0≤(l.length:Int)*B:=Int.mul_nonneg (by omega) (by omega)
    unfold sumI
    have h5:=hb 0 x s rfl h0 (by rw[Nat.add_zero];omega);rw[Nat.add_zero] at h5;rw[forL_go h5]
    exact forL_sum f B M (by omega) (by omega) (fun j h1 h2=>hf j (by omega) (by omega)) (fun j y s hj h1 h2=>by
      rw[Nat.add_assoc,Nat.add_comm 1 j] at h2 ⊢
      exact hb (j+1) y s hj h1 h2)
theorem ix_of {α:Type} {l:List α} {i:Int} {x:α} (h0:0≤i) (h:l[i.toNat]?=some x):ix l i=some x:=by unfold ix;rw[if_pos h0];exact h
theorem oV {α:Type} {l:List α} {i:Nat} {x:α} (h:l[i]?=some x):ix l (i:Int)=some x:=ix_of (by omega) (by simpa using h)
theorem kH {x:Int} (h0: -9223372036854775808≤x) (h1:x≤9223372036854775807):ck x=some x:=if_pos ⟨h0,h1⟩
theorem ap_eq {α:Type} {l m:List α} (h:(l.length+m.length)*1024≤140737488355328):ap l m=some (l++m):=if_pos h
theorem forL_idx {α : Type} (l : List α) (p : α → Bool) (f : α → Option Bool) (hf : ∀ x ∈ l, f x = some (p x)) : ∃ i : Int, vO (qK (σ := Unit) (ρ := Int) (fun (k : Nat) (x : α) (s : Unit) =>
      match s with
      | _=>
        xX (f x) fun z=>
        if z then
          some (.ret ((k:Int)))
        else
          some (.go ())) l 0 ()) (fun _=>some (-1))=some i∧decide (0≤i)=l.any p:=by
  rw[kR (fun k x=>if p x then some (k:Int) else none) (fun j x hj=>by
    simp only[hf x (List.mem_of_getElem? hj),bnd_s]
    by_cases hv:p x=true
    · simp [hv,ctlO]
    · simp [hv,ctlO])]
  have key:∀ (l:List α) (k:Nat),(l.any p=true∧∃ i:Nat,fnd (fun k x=>if p x then some (k:Int) else none) l k=some (i:Int))∨(l.any p=false∧fnd (fun k x=>if p x then some (k:Int) else none) l k=none):=by
    intro l
    induction l with
    | nil=>intro k;exact .inr ⟨rfl,rfl⟩
    | cons x l ih=>
      intro k
      unfold fnd
      by_cases hv:p x=true
      · exact .inl ⟨by simp [hv],k,by simp [hv]⟩
      · have hv':p x=false:=by simpa using hv
        rcases ih (k+1) with ⟨h1,i,h2⟩ | ⟨h1,h2⟩
        · exact .inl ⟨by simp [h1],i,by simp [hv',h2]⟩
        · exact .inr ⟨by simp [h1,hv'],by simp [hv',h2]⟩
  rcases key l 0 with ⟨h1,i,h2⟩ | ⟨h1,h2⟩
  · rw[h2];exact⟨i,rfl,by simp [h1]⟩
  · rw[h2];exact⟨-1,rfl,by simp [h1]⟩
end Go.Proofs.YticojbhjloeckaaGreat
