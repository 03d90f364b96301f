import Derived.Test.YtgnfibiaaipibaaGreatM72
namespace Go.Proofs.YtgnfibiaaipibaaGreat
set_option linter.unusedVariables false
set_option linter.unusedSimpArgs false
def aX (l:List Int):Prop:=∀ a∈l,0≤a∧a≤1
def addS (a b:List Int):List Int:=List.zipWith (fun x y=>(x+y).tmod 2) a b
theorem rm2 (x:Int):rm x 2=some (x.tmod 2):=by unfold rm;rw[if_neg (by decide)]
theorem tmod01 {x:Int} (h:0≤x):0≤x.tmod 2∧x.tmod 2≤1:=by
  rw[Int.tmod_eq_emod_of_nonneg h]
  omega
theorem addS_len {a b:List Int} (h:a.length=b.length):(addS a b).length=a.length:=by unfold addS;rw[List.length_zipWith];omega
theorem addS_bits {a b:List Int} (ha:aX a) (hb:aX b):aX (addS a b):=fun x hx=>by
  unfold addS at hx
  obtain⟨i,h1,h2⟩:=List.mem_iff_getElem.1 hx;rw[List.getElem_zipWith] at h2;rw[← h2];rw[List.length_zipWith] at h1;have:=ha a[i] (List.getElem_mem _);have:=hb b[i] (List.getElem_mem _);exact tmod01 (by omega)
def mixS (a b:List Int) (k:Nat):List Int:=(addS a b).take k++a.drop k
theorem mix_len {a b:List Int} (h:a.length=b.length) {k:Nat} (hk:k≤a.length):(mixS a b k).length=a.length:=by
  unfold mixS
  rw[List.length_append,List.length_take,List.length_drop,addS_len h]
  omega
theorem mix_get {a b:List Int} (h:a.length=b.length) {k:Nat} (hk:k<a.length):(mixS a b k)[k]?=a[k]?:=by
  unfold mixS
  have:((addS a b).take k).length=k:=by rw[List.length_take,addS_len h];omega
  rw[List.getElem?_append_right (by omega),this,Nat.sub_self,List.getElem?_drop,Nat.add_zero]
theorem mix_set {a b:List Int} (h:a.length=b.length) {k:Nat} (hk:k<a.length) {x y:Int} (hx:a[k]?=some x) (hy:b[k]?=some y):(mixS a b k).set k ((x+y).tmod 2)=mixS a b (k+1):=by
  unfold mixS
  have h1:((addS a b).take k).length=k:=by rw[List.length_take,addS_len h];omega
  have h2:(addS a b)[k]?=some ((x+y).tmod 2):=by unfold addS;rw[List.getElem?_zipWith,hx,hy]
  rw[List.set_append_right _ _ (by omega),h1,Nat.sub_self,List.take_add_one,h2,List.append_assoc,List.drop_eq_getElem_cons hk]
  rfl
theorem mix_end {a b:List Int} (h:a.length=b.length):mixS a b a.length=addS a b:=by
  unfold mixS
  rw[List.drop_length,List.append_nil,List.take_of_length_le (by rw[addS_len h];exact Nat.le_refl _)]
theorem mix_zero (a b:List Int):mixS a b 0=a:=rfl
theorem get01 {l:List Int} (h:aX l) {k:Nat} (hk:k<l.length):∃ x,l[k]?=some x∧0≤x∧x≤1:=⟨l[k],List.getElem?_eq_getElem hk,h _ (List.getElem_mem hk)⟩
theorem plus_eq {a b:List Int} (h:a.length=b.length) (hl:a.length≤1000) (ha:aX a) (hb:aX b):impl_plus a b=some (addS a b):=by
  unfold impl_plus
  rw[clone_eq a (by omega),bnd_s]
  have key:∀ (l:List Int) (k:Nat),b.drop k=l→k≤b.length→qJ (σ:=(List Int)) (ρ:=(List Int)) (fun(k65:Nat) (x67:Int) (s58:(List Int))=>
   xY (ix s58 (k65:Int)) fun z74=>
   xY (ck (z74+x67)) fun z79=>
   xY (rm z79 2) fun z81=>
   some (.go (s58.set ((k65:Int)).toNat z81))) l k (mixS a b k)=some (.nx (addS a b)):=by
    intro l
    induction l with
    | nil=>
      intro k hd hk
      have:k=a.length:=by have:=List.drop_eq_nil_iff.1 hd;omega
      rw[this,mix_end h,forL_nil']
    | cons y l ih=>
      intro k hd hk
      have hk2:k<b.length:=by
        rcases Nat.lt_or_ge k b.length with h | h
        · exact h
        · rw[List.drop_eq_nil_of_le h] at hd;cases hd
      rw[List.drop_eq_getElem_cons hk2] at hd
      injection hd with e1 e2
      obtain⟨x,hx,x0,x1⟩:=get01 ha (k:=k) (by omega)
      have hy:b[k]?=some y:=by rw[List.getElem?_eq_getElem hk2,e1]
      have yb:=hb y (List.mem_of_getElem? hy)
      rw[dC (s':=mixS a b (k+1)) (by
        rw[oZ ((mix_get h (by omega)).trans hx),bnd_s,aJ (by omega) (by omega),bnd_s,rm2,bnd_s,Int.toNat_natCast,mix_set h (by omega) hx hy]),ih (k+1) e2 (by omega)]
  have:=key b 0 rfl (Nat.zero_le _);rw[mix_zero] at this;rw[this,thn_nx]
theorem l09Add_eq {N:Nat} {a b:List Int} (h:a.length=b.length) (hl:a.length≤1000) (hN:a.length<N) (ha:aX a) (hb:aX b):eU N a b=some (addS a b):=by
  unfold eU
  have key:∀ (N k:Nat),a.length - k<N→k≤a.length→cF (σ:=Int×(List Int)) (ρ:=(List Int)) (fun(s:Int×(List Int))=>
    match s with
    | (s88,s90)=>
    if (decide (s88<(s90.length:Int))) then
     xY (ix s90 s88) fun z104=>
     xY (ix b s88) fun z109=>
     xY (ck (z104+z109)) fun z114=>
     xY (rm z114 2) fun z116=>
     xY (ck (s88+1)) fun z132=>
     some (.go (z132,(s90.set (s88).toNat z116)))
    else
     some (.brk (s88,s90))) N ((k:Int),mixS a b k)=some (.nx ((a.length:Int),addS a b)):=by
    intro N
    induction N with
    | zero=>intro k hk;omega
    | succ N ih=>
      intro k hN hk;have hml:=mix_len h hk
      rcases Nat.lt_or_ge k a.length with hlt | hge
      · obtain⟨x,hx,x0,x1⟩:=get01 ha hlt
        obtain⟨y,hy,y0,y1⟩:=get01 hb (k:=k) (by omega)
        rw[fC (s':=(((k+1:Nat):Int),mixS a b (k+1))) (by
          simp only[hml];rw[if_pos (by simp;omega),oZ ((mix_get h hlt).trans hx),bnd_s,oZ hy,bnd_s,aJ (by omega) (by omega),bnd_s,rm2,bnd_s,aJ (by omega) (by omega),bnd_s,Int.toNat_natCast,mix_set h hlt hx hy]
          rfl),ih (k+1) (by omega) (by omega)]
      · obtain rfl:k=a.length:=by omega
        rw[bY (s':=((a.length:Int),addS a b)) (by
          simp only[hml]
          rw[if_neg (by simp),mix_end h])]
  have:=key N 0 (by omega) (Nat.zero_le _);rw[mix_zero] at this;rw[show((0:Nat):Int)=0 from rfl] at this;rw[this,thn_nx]
theorem Index1_eq (l:List Int):zN l 1=some (match fstI (fun x=>1==x) l 0 with | some i=>(i:Int) | none=>-1):=by
  unfold zN
  rw[aP (fun k x=>if (1==x) then some (k:Int) else none) (fun j x hj=>by
    by_cases hv:(1==x)=true
    · simp only[hv,if_true];rfl
    · have hv':(1==x)=false:=by simpa using hv
      simp only[hv',Bool.false_eq_true,if_false];rfl),fnd_fstI]
  cases fstI (fun x=>1==x) l 0<;>rfl
theorem fst_loop {ρ : Type} {V : Nat} {l : List Int} (hl : l.length = V + 1) (hV : V ≤ 1000) (hb : aX l) {e : Nat} (he : e = match fstI (fun x => 1 == x) l 0 with | some i => i | none => V) : ∀ (N k : Nat), V - k < N → k ≤ e → cF (σ := Int) (ρ := ρ) (fun (s2484 : Int) =>
         vT (σ:=Bool) (
          if (decide (s2484<(V:Int))) then  xY (ix l s2484) fun z2511=>
           some (.nx (z2511==0)) else  some (.nx false)) fun s2506=>
         if s2506 then
          xY (ck (s2484+1)) fun z2517=>
          some (.go z2517)
         else
          some (.brk s2484)) N (k:Int)=some (.nx (e:Int)):=by
  have hf:=fstI_spec (fun x=>1==x) l 0
  have heV:e≤V:=by
    rcases hf with ⟨h1,h2⟩ | ⟨i,h1,h2,h3,x,h4,h5⟩
    · rw[h1] at he;simp only at he;omega
    · rw[h2] at he;simp only at he;omega
  have hzero:∀ k,k<e→l[k]?=some 0:=fun k hk=>by
    obtain⟨x,hx,x0,x1⟩:=get01 hb (k:=k) (by omega)
    have hne:x≠1:=by
      intro h;subst h
      rcases hf with ⟨h1,h2⟩ | ⟨i,h1,h2,h3,y,h4,h5⟩
      · have hm:=List.mem_of_getElem? hx
        rw[← h2,List.mem_filter] at hm
        simp at hm
      · rw[h2] at he
        simp only at he;have hm:(1:Int)∈l.take i:=List.mem_of_getElem? (i:=k) (by rw[List.getElem?_take,if_pos (by omega),hx]);rw[← h3,List.mem_filter] at hm
        simp at hm
    have:x=0:=by omega
    rw[hx,this]
  have hone:e<V→l[e]?=some 1:=fun h=>by
    rcases hf with ⟨h1,h2⟩ | ⟨i,h1,h2,h3,x,h4,h5⟩
    · rw[h1] at he;simp only at he;omega
    · rw[h2] at he
      simp only at he
      have:x=1:=by have:(1==x)=true:=h5;simp at this;omega
      rw[he,Nat.zero_add,h4,this]
  intro N
  induction N with
  | zero=>intro k hk;omega
  | succ N ih=>
    intro k hN hk
    rcases Nat.lt_or_ge k e with hlt | hge
    · rw[fC (s':=((k+1:Nat):Int)) (by
        rw[if_pos (by simp;omega),oZ (hzero k hlt),bnd_s,thn_nx,if_pos (by rfl),aJ (by omega) (by omega),bnd_s]
        rfl),ih (k+1) (by omega) (by omega)]
    · obtain rfl:k=e:=by omega
      refine bY ?_
      rcases Nat.lt_or_ge k V with hlt | hge2
      · rw[if_pos (by simp;omega),oZ (hone hlt),bnd_s,thn_nx,if_neg (by simp)]
      · rw[if_neg (by simp;omega),thn_nx,if_neg (by simp)]
end Go.Proofs.YtgnfibiaaipibaaGreat
namespace Go.Proofs.YtgnfibiaaipibaaGreat
set_option linter.unusedVariables false
set_option linter.unusedSimpArgs false
def dt (l vs:List Int):Nat→Int
  | 0=>0
  | n+1=>dt l vs n+l.getD n 0*vs.getD n 0
def Evn (V:Nat) (l vs:List Int):Prop:=(dt l vs V+l.getD V 0) % 2=0
theorem bitD {l:List Int} (h:aX l) (k:Nat):l.getD k 0=0∨l.getD k 0=1:=by
  rw[List.getD_eq_getElem?_getD]
  cases hk:l[k]? with
  | none=>exact .inl rfl
  | some x=>have:=h x (List.mem_of_getElem? hk);show x=0∨x=1;omega
theorem addS_getD {a b:List Int} (h:a.length=b.length) (k:Nat):(addS a b).getD k 0=(a.getD k 0+b.getD k 0).tmod 2:=by
  unfold addS
  rw[List.getD_eq_getElem?_getD,List.getD_eq_getElem?_getD,List.getD_eq_getElem?_getD,List.getElem?_zipWith]
  by_cases hk:k<a.length
  · rw[List.getElem?_eq_getElem hk,List.getElem?_eq_getElem (by omega)];rfl
  · rw[List.getElem?_eq_none (by omega),List.getElem?_eq_none (by omega)];rfl
theorem dt_add {a b:List Int} (vs:List Int) (h:a.length=b.length) (ha:aX a) (hb:aX b):∀ n,(dt (addS a b) vs n - (dt a vs n+dt b vs n)) % 2=0
  | 0=>rfl
  | n+1=>by
    have ih:=dt_add vs h ha hb n;simp only[dt,addS_getD h];generalize vs.getD n 0=v
    rcases bitD ha n with e | e<;>rcases bitD hb n with e' | e'<;>rw[e,e']<;>simp<;>omega
theorem Evn_add {V:Nat} {a b vs:List Int} (h:a.length=b.length) (ha:aX a) (hb:aX b) (hH:Evn V b vs):Evn V (addS a b) vs↔Evn V a vs:=by
  have h1:=dt_add vs h ha hb V
  unfold Evn at hH ⊢
  rw[addS_getD h]
  rcases bitD ha V with e | e<;>rcases bitD hb V with e' | e'<;>rw[e]<;>rw[e'] at hH ⊢<;>simp<;>omega
theorem setD {l:List Int} {v:Nat} (x:Int) (hv:v<l.length) (k:Nat):(l.set v x).getD k 0=if k=v then x else l.getD k 0:=by
  rw[List.getD_eq_getElem?_getD,List.getD_eq_getElem?_getD,List.getElem?_set]
  by_cases h:v=k
  · subst h;simp [hv]
  · rw[if_neg h,if_neg (fun e=>h e.symm)]
theorem dt_set {l:List Int} (vs:List Int) {v:Nat} (x:Int) (hv:v<l.length):∀ n,dt (l.set v x) vs n=dt l vs n+(if v<n then (x - l.getD v 0)*vs.getD v 0 else 0)
  | 0=>rfl
  | n+1=>by
    simp only[dt,setD x hv,dt_set vs x hv n]
    by_cases h:n=v
    · subst h
      simp [Int.sub_mul]
      omega
    · rw[if_neg h]
      by_cases h2:v<n
      · rw[if_pos h2,if_pos (by omega)];omega
      · rw[if_neg h2,if_neg (by omega)];omega
theorem dt_zero {l vs:List Int}:∀ n,(∀ k,k<n→l.getD k 0*vs.getD k 0=0)→dt l vs n=0
  | 0,_=>rfl
  | n+1,h=>by
    simp only[dt];rw[dt_zero n (fun k hk=>h k (by omega)),h n (by omega)]
    rfl
theorem dt_one {l vs:List Int} {p:Nat}:∀ n,(∀ k,k<n→k≠p→l.getD k 0*vs.getD k 0=0)→dt l vs n=if p<n then l.getD p 0*vs.getD p 0 else 0
  | 0,_=>rfl
  | n+1,h=>by
    simp only[dt];rw[dt_one n (fun k hk=>h k (by omega))]
    by_cases e:n=p
    · subst e
      simp
    · rw[h n (by omega) e]
      by_cases h2:p<n
      · rw[if_pos h2,if_pos (by omega)];omega
      · rw[if_neg h2,if_neg (by omega)];rfl
theorem dt_rep (vs:List Int) (m:Nat):∀ n,dt (List.replicate m 0) vs n=0:=fun n=>dt_zero n (fun k _=>by
  have h:(List.replicate m (0:Int)).getD k 0=0:=by
    rw[List.getD_eq_getElem?_getD,List.getElem?_replicate]
    split<;>rfl
  rw[h];exact Int.zero_mul _)
end Go.Proofs.YtgnfibiaaipibaaGreat
namespace Go.Proofs.YtgnfibiaaipibaaGreat
set_option linter.unusedVariables false
set_option linter.unusedSimpArgs false
theorem forL_map {α β σ ρ:Type} (f:α→β) {g:Nat→β→σ→Option (Ctl σ ρ)}:∀ (l:List α) (k:Nat) (s:σ),qJ g (l.map f) k s=qJ (fun k x s=>g k (f x) s) l k s
  | [],_,_=>rfl
  | x::l,k,s=>by
    rw[List.map_cons];simp only[qJ]
    cases h:g k (f x) s with
    | none=>rfl
    | some c=>cases c with
      | go t=>exact forL_map f l (k+1) t
      | _=>rfl
theorem set_same {α:Type} {l:List α} {k:Nat} {x:α} (h:l[k]?=some x):l.set k x=l:=by
  apply List.ext_getElem?
  intro a
  by_cases ha:k=a
  · subst ha
    rw[List.getElem?_set_self ((List.getElem?_eq_some_iff.1 h).1),h]
  · rw[List.getElem?_set_ne ha]
theorem take_upd {α:Type} (u:α→α) {L:List α} {k:Nat} {x:α} (hx:L[k]?=some x):((L.take k).map u++L.drop k).set k (u x)=(L.take (k+1)).map u++L.drop (k+1):=by
  have hk:=(List.getElem?_eq_some_iff.1 hx).1
  have h1:((L.take k).map u).length=k:=by rw[List.length_map,List.length_take];omega
  rw[List.set_append_right _ _ (by omega),h1,Nat.sub_self,List.take_add_one,hx,List.map_append,List.append_assoc,List.drop_eq_getElem_cons hk]
  rfl
theorem take_upd_get {α:Type} (u:α→α) {L:List α} {k:Nat} {x:α} (hx:L[k]?=some x):((L.take k).map u++L.drop k)[k]?=some x:=by
  have hk:=(List.getElem?_eq_some_iff.1 hx).1
  have h1:((L.take k).map u).length=k:=by rw[List.length_map,List.length_take];omega
  rw[List.getElem?_append_right (by omega),h1,Nat.sub_self,List.getElem?_drop,Nat.add_zero,hx]
theorem take_upd_len {α:Type} (u:α→α) {L:List α} {k:Nat} (hk:k≤L.length):((L.take k).map u++L.drop k).length=L.length:=by
  rw[List.length_append,List.length_map,List.length_take,List.length_drop];omega
theorem forL_upd {α ρ:Type} (u:α→α) (L:List α) {b:Nat→α→List α→Option (Ctl (List α) ρ)} (hb:∀ k x st,L[k]?=some x→st[k]?=some x→b k x st=some (.go (st.set k (u x)))):qJ b L 0 L=some (.nx (L.map u)):=by
  have key:∀ (l:List α) (k:Nat),L.drop k=l→k≤L.length→qJ b l k ((L.take k).map u++L.drop k)=some (.nx (L.map u)):=by
    intro l
    induction l with
    | nil=>
      intro k hd hk
      have:k=L.length:=by have:=List.drop_eq_nil_iff.1 hd;omega
      rw[forL_nil',this,List.take_length,List.drop_length,List.append_nil]
    | cons x l ih=>
      intro k hd hk
      have hk2:k<L.length:=by
        rcases Nat.lt_or_ge k L.length with h | h
        · exact h
        · rw[List.drop_eq_nil_of_le h] at hd;cases hd
      have hd':=hd;rw[List.drop_eq_getElem_cons hk2] at hd'
      injection hd' with e1 e2
      have hx:L[k]?=some x:=by rw[List.getElem?_eq_getElem hk2,e1]
      rw[dC (s':=(L.take (k+1)).map u++L.drop (k+1)) (by rw[hb k x _ hx (take_upd_get u hx),take_upd u hx]),ih (k+1) e2 (by omega)]
  exact key L 0 rfl (Nat.zero_le _)
theorem whl_upd {α ρ:Type} (u:α→α) (L:List α) (hL:L.length≤1000000) {b:Int×List α→Option (Ctl (Int×List α) ρ)} (hb:∀ (k:Nat) x st,L[k]?=some x→st[k]?=some x→st.length=L.length→b ((k:Int),st)=some (.go (((k+1:Nat):Int),st.set k (u x)))) (he:∀ st:List α,st.length=L.length→b ((L.length:Int),st)=some (.brk ((L.length:Int),st))) {N:Nat} (hN:L.length<N):cF b N (0,L)=some (.nx ((L.length:Int),L.map u)):=by
  have key:∀ (N k:Nat),L.length - k<N→k≤L.length→cF b N ((k:Int),(L.take k).map u++L.drop k)=some (.nx ((L.length:Int),L.map u)):=by
    intro N
    induction N with
    | zero=>intro k hk;omega
    | succ N ih=>
      intro k hN hk
      rcases Nat.lt_or_ge k L.length with hlt | hge
      · have hx:L[k]?=some L[k]:=List.getElem?_eq_getElem hlt
        rw[fC (s':=(((k+1:Nat):Int),(L.take (k+1)).map u++L.drop (k+1))) (by rw[hb k _ _ hx (take_upd_get u hx) (take_upd_len u (by omega)),take_upd u hx]),ih (k+1) (by omega) (by omega)]
      · obtain rfl:k=L.length:=by omega
        rw[bY (he _ (take_upd_len u (Nat.le_refl _))),List.take_length,List.drop_length,List.append_nil]
  exact key N 0 (by omega) (Nat.zero_le _)
structure RowOk (V:Nat) (d:told):Prop where
  l:d.left.length=V+1
  b:aX d.left
  v:0≤d.var∧d.var<(V:Int)
theorem set_len_bits {l:List Int} {i:Nat} {x:Int} {m:Nat} (h:l.length=m) (hb:aX l) (hx:0≤x∧x≤1):(l.set i x).length=m∧aX (l.set i x):=by
  refine⟨by rw[List.length_set];exact h,fun a ha=>?_⟩
  rcases List.mem_or_eq_of_mem_set ha with h | rfl
  · exact hb a h
  · exact hx
theorem ix01 {l:List Int} {m:Nat} (h:l.length=m) (hb:aX l) {v:Int} (h0:0≤v) (h1:v<(m:Int)):∃ x,l[v.toNat]?=some x∧ix l v=some x∧0≤x∧x≤1:=by
  obtain⟨x,hx,h2⟩:=get01 hb (k:=v.toNat) (by omega);exact⟨x,hx,iM h0 hx,h2⟩
def VB (V:Nat) (vs:List Int):Prop:=vs.length=V∧aX vs
def Sol (t:Template) (y:Instance) (vs:List Int):Prop:=(vs.length:Int)=y.vars∧aX vs∧∀ c∈y.cons,conS t vs c=true
def Ans (t:Template) (y:Instance) (r:List Int×Bool):Prop:=(r.2=true→Sol t y r.1)∧(r.2=false→∀ vs,¬ Sol t y vs)
structure EqOk (N:Nat) (r:Rel) (eqs:List (List Int)):Prop where
  s:aG N r=some eqs
  i:aK N r=some eqs
  le:eqs.length≤31
  b:∀ q∈eqs,(q.length:Int)=r.arity+1∧aX q
  iff:∀ u:List Int,(u.length:Int)=r.arity→aX u→(u∈r.tuples↔∀ q∈eqs,Evn u.length q u)
structure Rows (V K:Nat) (P:List Int→Prop) (s:List told) (s':List (List Int)×List Int):Prop where
  e:s'=(s.map told.left,s.map told.var)
  ok:∀ d∈s,RowOk V d
  le:s.length≤K
  sem:∀ vs,VB V vs→(P vs↔∀ d∈s,Evn V d.left vs)
  piv:∀ (i j:Nat) (d d':told),s[i]?=some d→s[j]?=some d'→d'.left.getD d.var.toNat 0=if i=j then 1 else 0
theorem Rows.mono {V K K':Nat} {P P':List Int→Prop} {s:List told} {s':List (List Int)×List Int} (h:Rows V K P s s') (hK:K≤K') (hP:∀ vs,VB V vs→(P vs↔P' vs)):Rows V K' P' s s':=
  ⟨h.e,h.ok,Nat.le_trans h.le hK,fun vs hv=>(hP vs hv).symm.trans (h.sem vs hv),h.piv⟩
theorem own_step {V p v:Nat} {l q vs a:List Int} (hl:l.length=V+1) (hv:v<V) (hb:aX l) (hq:aX q) (h:(dt l vs V - dt q a p) % 2=0) (ha:a.getD p 0=vs.getD v 0):(dt (l.set v ((l.getD v 0+q.getD p 0).tmod 2)) vs V - dt q a (p+1)) % 2=0:=by
  rw[dt_set _ _ (by omega),if_pos hv];simp only[dt,ha];generalize vs.getD v 0=b
  rcases bitD hb v with e | e<;>rcases bitD hq p with e' | e'<;>rw[e,e']<;>simp<;>omega
theorem evn_own {V n:Nat} {l q vs a:List Int} (hl:l.length=V+1) (h:(dt l vs V - dt q a n) % 2=0):Evn V (l.set V (q.getD n 0)) vs↔Evn n q a:=by
  unfold Evn
  rw[dt_set _ _ (by omega),if_neg (by omega),setD _ (by omega),if_pos rfl]
  omega
theorem no_one {w:List Int} (hb:aX w) (h:w.filter (fun x=>!(1==x))=w) (k:Nat):w.getD k 0=0:=by
  rcases bitD hb k with e | e
  · exact e
  · by_cases hk:k<w.length
    · have hm:w[k]∈w:=List.getElem_mem hk
      have hm':w[k]∈w.filter (fun x=>!(1==x)):=by rw[h];exact hm
      have h2:=(List.mem_filter.1 hm').2;rw[List.getD_eq_getElem?_getD,List.getElem?_eq_getElem hk] at e;have e:w[k]=1:=e;rw[e] at h2
      simp at h2
    · rw[List.getD_eq_getElem?_getD,List.getElem?_eq_none (by omega)];rfl
theorem take_one {w:List Int} {p:Nat} (hb:aX w) (h:(w.take p).filter (fun x=>!(1==x))=w.take p) {k:Nat} (hk:k<p):w.getD k 0=0:=by
  have:=no_one (w:=w.take p) (fun a ha=>hb a (List.mem_of_mem_take ha)) h k;rw[List.getD_eq_getElem?_getD,List.getElem?_take,if_pos hk] at this;rw[List.getD_eq_getElem?_getD];exact this
def updR (p:Nat) (w l:List Int):List Int:=if l.getD p 0=1 then addS l w else l
theorem updR_ok {V p:Nat} {w l:List Int} (hl:w.length=V+1) (hb:aX w) (h1:l.length=V+1) (h2:aX l):(updR p w l).length=V+1∧aX (updR p w l):=by
  unfold updR
  split
  · exact⟨by rw[addS_len (by omega)];exact h1,addS_bits h2 hb⟩
  · exact⟨h1,h2⟩
theorem push_rows {V K p:Nat} {P Q:List Int→Prop} {s:List told} {s':List (List Int)×List Int} {w:List Int} (R:Rows V K P s s') (hl:w.length=V+1) (hb:aX w) (hp:p<V) (hw1:w.getD p 0=1)
    (hsem:∀ vs,VB V vs→(∀ d∈s,Evn V d.left vs)→(Evn V w vs↔Q vs)) (hred:∀ d∈s,w.getD d.var.toNat 0=0) :
    Rows V (K+1) (fun vs=>P vs∧Q vs) ((s.map fun d:told=>{ d with left:=updR p w d.left })++[told.mk w (p:Int)]) (((s.map told.left).map (updR p w))++[w],(s.map told.var)++[(p:Int)]):=by
  have hU:∀ d∈s,∀ vs,Evn V w vs→(Evn V (updR p w d.left) vs↔Evn V d.left vs):=fun d hd vs hw=>by
    unfold updR
    split
    · exact Evn_add (by rw[(R.ok d hd).l,hl]) (R.ok d hd).b hb hw
    · exact Iff.rfl
  refine⟨?_,fun d hd=>?_,?_,fun vs hv=>⟨fun h d hd=>?_,fun h=>?_⟩,fun i j d d' hi hj=>?_⟩
  · rw[List.map_append,List.map_append,List.map_map,List.map_map,List.map_map];rfl
  · rcases List.mem_append.1 hd with hd | hd
    · obtain⟨d',hd',rfl⟩:=List.mem_map.1 hd
      have h:=R.ok d' hd';have h2:=updR_ok (p:=p) hl hb h.l h.b;exact⟨h2.1,h2.2,h.v⟩
    · rw[List.mem_singleton] at hd
      subst hd;exact⟨hl,hb,by show(0:Int)≤p;omega,by show(p:Int)<V;omega⟩
  · have:=R.le
    rw[List.length_append,List.length_map,List.length_singleton];omega
  · have hr:=(R.sem vs hv).1 h.1
    have hw:=(hsem vs hv hr).2 h.2
    rcases List.mem_append.1 hd with hd | hd
    · obtain⟨d',hd',rfl⟩:=List.mem_map.1 hd
      exact(hU d' hd' vs hw).2 (hr d' hd')
    · rw[List.mem_singleton] at hd
      subst hd;exact hw
  · have hw:Evn V w vs:=h (told.mk w (p:Int)) (List.mem_append.2 (.inr (by simp)))
    have hr:∀ d∈s,Evn V d.left vs:=fun d hd=>(hU d hd vs hw).1 (h { d with left:=updR p w d.left } (List.mem_append.2 (.inl (List.mem_map.2 ⟨d,hd,rfl⟩))));exact⟨(R.sem vs hv).2 hr,(hsem vs hv hr).1 hw⟩
  · have hat:∀ {k:Nat} {e:told},((s.map fun d:told=>{ d with left:=updR p w d.left })++[told.mk w (p:Int)])[k]?=some e→(∃ e0,s[k]?=some e0∧e0∈s∧e={ e0 with left:=updR p w e0.left }∧k<s.length)∨(e=told.mk w (p:Int)∧k=s.length):=fun {k e} h=>by
      by_cases hk:k<s.length
      · rw[List.getElem?_append_left (by simpa using hk),List.getElem?_map] at h
        obtain⟨e0,h1,h2⟩:=Option.map_eq_some_iff.1 h;exact .inl ⟨e0,h1,List.mem_of_getElem? h1,h2.symm,hk⟩
      · rw[List.getElem?_append_right (by simpa using hk),List.length_map] at h
        have hk2:k=s.length:=by
          have:=(List.getElem?_eq_some_iff.1 h).1
          simp at this;omega
        subst hk2
        simp at h
        exact .inr ⟨h.symm,rfl⟩
    rcases hat hi with ⟨e,he,hem,rfl,hil⟩ | ⟨rfl,hil⟩<;>rcases hat hj with ⟨e',he',hem',rfl,hjl⟩ | ⟨rfl,hjl⟩
    · have h:=R.piv i j e e' he he'
      show(updR p w e'.left).getD e.var.toNat 0=_
      unfold updR
      split
      · rw[addS_getD (by rw[(R.ok e' hem').l,hl]),hred e hem,h]
        split<;>rfl
      · exact h
    · show w.getD e.var.toNat 0=_
      rw[hred e hem,if_neg (by omega)]
    · show(updR p w e'.left).getD (p:Int).toNat 0=_
      rw[if_neg (by omega),Int.toNat_natCast]
      unfold updR
      split
      · rename_i h1
        rw[addS_getD (by rw[(R.ok e' hem').l,hl]),h1,hw1];rfl
      · rename_i h1
        exact(bitD (R.ok e' hem').b p).resolve_right h1
    · show w.getD (p:Int).toNat 0=_
      rw[Int.toNat_natCast,hw1,if_pos (by omega)]
theorem out_sol {V:Nat} {s:List told} {out:List Int} (piv:∀ (i j:Nat) (d d':told),s[i]?=some d→s[j]?=some d'→d'.left.getD d.var.toNat 0=if i=j then 1 else 0) (ok:∀ d∈s,RowOk V d)
    (h1:∀ (j:Nat) (d:told),s[j]?=some d→out.getD d.var.toNat 0=d.left.getD V 0) (h0:∀ v,(∀ d∈s,d.var.toNat≠v)→out.getD v 0=0):∀ d∈s,Evn V d.left out:=fun d hd=>by
  obtain⟨j,hj⟩:=List.mem_iff_getElem?.1 hd;have hv:=(ok d hd).v
  unfold Evn
  rw[dt_one (p:=d.var.toNat) V (fun k hk hne=>by
    by_cases h:∃ d'∈s,d'.var.toNat=k
    · obtain⟨d',hd',rfl⟩:=h
      obtain⟨j',hj'⟩:=List.mem_iff_getElem?.1 hd'
      have hne':j'≠j:=fun e=>by subst e;rw[hj] at hj';cases hj';exact hne rfl
      rw[piv j' j d' d hj' hj,if_neg hne'];exact Int.zero_mul _
    · rw[h0 k (fun d' hd' e=>h ⟨d',hd',e⟩)]
      exact Int.mul_zero _),if_pos (by omega),piv j j d d hj hj,if_pos rfl,h1 j d hj]
  omega
theorem Solve_two {N T:Nat} {t:Template} {y:Instance} (hu:TV T t) (h2:t.size=2) (hv:1≤y.vars∧y.vars≤10) (hn:y.cons.length≤24) (hC:∀ c∈y.cons,CV t y.vars c) (hE:∀ r∈t.rels,∃ eqs,EqOk N r eqs) (hN:2000≤N):aB (bO N t y) (gT N t y) (fun r r'=>r=r'∧r.1.length≤10∧Ans t y r):=by
  obtain⟨V,hV⟩:∃ V:Nat,y.vars=V:=⟨y.vars.toNat,by omega⟩
  have hV1:1≤V∧V≤10:=by omega
  have hVS:∀ {vs},Sol t y vs→VB V vs:=fun h=>⟨by have:=h.1;omega,h.2.1⟩
  unfold bO gT
  rw[hV];refine aB.thn (fun s s'=>Rows V 744 (fun vs=>∀ c∈y.cons,conS t vs c=true) s s') (fun r r'=>r=([],false)∧r'=([],false)∧∀ vs,¬ Sol t y vs) (aB.mono (aB.forL (fun k s s'=>Rows V (31*k) (fun vs=>∀ c∈y.cons.take k,conS t vs c=true) s s') (fun r r'=>r=([],false)∧r'=([],false)∧∀ vs,¬ Sol t y vs) ⟨rfl,(fun d hd=>nomatch hd),Nat.zero_le _,fun vs _=>⟨fun _ d hd=>(nomatch hd),fun _ c hc=>by simp at hc⟩,fun i j d d' hi=>by simp at hi⟩ (fun j c s s' hj hR=>?_)) (fun a a' h=>?_)) (fun s s' h=>?_) (fun r r' h=>by rw[h.1,h.2.1];exact⟨rfl,Nat.zero_le _,(fun h=>nomatch h),fun _=>h.2.2⟩)
  ·
    have hcm:=List.mem_of_getElem? hj;have hc:=hC c hcm;have hjl:=(List.getElem?_eq_some_iff.1 hj).1;obtain⟨hsc,r,r0,r1,r2,r3⟩:=hc;obtain⟨eqs,E⟩:=hE r r2;obtain⟨n,e,n1,n4,_,_⟩:=hu.r r r2
    have hcon:∀ vs,VB V vs→(conS t vs c=true↔∀ q∈eqs,Evn c.scope.length q (atV vs c.scope)):=fun vs hvs=>by
      have hl:(atV vs c.scope).length=c.scope.length:=by unfold atV;exact List.length_map _
      have hb:aX (atV vs c.scope):=fun a ha=>by
        unfold atV at ha
        obtain⟨i,hi,rfl⟩:=List.mem_map.1 ha
        rcases bitD hvs.2 i.toNat with e | e<;>rw[e]<;>omega
      unfold conS
      rw[decide_eq_true_iff,List.getD_eq_getElem?_getD,r1]
      show atV vs c.scope∈r.tuples↔_
      rw[E.iff _ (by omega) hb,hl]
    refine aB.l (iM r0 r1) (aB.r (iM r0 r1) (aB.l E.i (aB.r E.s ?_)));simp only[Nat.zero_add] at hR ⊢;have hle:=E.le;refine aB.thn (fun s s'=>Rows V (31*j+31) (fun vs=>(∀ c∈y.cons.take j,conS t vs c=true)∧∀ q∈eqs,Evn c.scope.length q (atV vs c.scope)) s s') (fun r r'=>r= .ret ([],false)∧r'= .ret ([],false)∧∀ vs,¬ Sol t y vs) (aB.mono (aB.forL (fun k s s'=>Rows V (31*j+k) (fun vs=>(∀ c∈y.cons.take j,conS t vs c=true)∧∀ q∈eqs.take k,Evn c.scope.length q (atV vs c.scope)) s s') (fun r r'=>r= .ret ([],false)∧r'= .ret ([],false)∧∀ vs,¬ Sol t y vs) (hR.mono (by omega) (fun vs _=>⟨fun h=>⟨h,fun q hq=>by simp at hq⟩,fun h=>h.1⟩)) (fun i q s s' hi hR=>?_)) (fun a a' h=>?_)) (fun s s' h=>?_) (fun r r' h=>by obtain⟨rfl,rfl,h⟩:=h;exact⟨rfl,rfl,h⟩)
    ·
      simp only[Nat.zero_add] at hR ⊢;have hok:=hR.ok;have hsl:=hR.le;obtain rfl:=hR.e;have hil:=(List.getElem?_eq_some_iff.1 hi).1;have hqm:=List.mem_of_getElem? hi;obtain⟨hql,hqb⟩:=E.b q hqm
      have hql':q.length=c.scope.length+1:=by omega
      have htk:∀ vs,(∀ q'∈eqs.take (i+1),Evn c.scope.length q' (atV vs c.scope))↔(∀ q'∈eqs.take i,Evn c.scope.length q' (atV vs c.scope))∧Evn c.scope.length q (atV vs c.scope):=fun vs=>by
        rw[List.take_add_one,hi];simp only[Option.toList,List.mem_append,List.mem_singleton];exact⟨fun h=>⟨fun q' hq'=>h q' (.inl hq'),h q (.inr rfl)⟩,fun h q' hq'=>hq'.elim (h.1 q') (fun e=>e ▸ h.2)⟩
      have hz:mkz (0:Int) ((V:Int)+1)=some (List.replicate (V+1) 0):=by
        unfold mkz
        rw[if_pos ⟨by omega,by omega⟩]
        congr 2
      refine aB.l (aJ (by omega) (by omega)) (aB.r (aJ (by omega) (by omega)) (aB.l hz (aB.r hz ?_)));refine aB.thn (fun s s'=>s=s'∧s.length=V+1∧aX s∧∀ vs,VB V vs→(dt s vs V - dt q (atV vs c.scope) c.scope.length) % 2=0) (fun _ _=>False) (aB.mono (aB.forL (fun k s s'=>s=s'∧s.length=V+1∧aX s∧∀ vs,VB V vs→(dt s vs V - dt q (atV vs c.scope) k) % 2=0) (fun _ _=>False) ⟨rfl,List.length_replicate,(fun a ha=>by rw[List.eq_of_mem_replicate ha];omega),fun vs _=>by rw[dt_rep];rfl⟩ (fun p v s s' hp hR=>?_)) (fun a a' h=>?_)) (fun own own' h=>?_) (fun r r' h=>h.elim)
      · obtain⟨rfl,hl,hb,hd⟩:=hR
        have hpl:=(List.getElem?_eq_some_iff.1 hp).1;have hvv:=hsc v (List.mem_of_getElem? hp);obtain⟨x,hx',hx,x0,x1⟩:=ix01 hl hb (v:=v) hvv.1 (by omega);obtain⟨z,hz,z0,z1⟩:=get01 hqb (k:=p) (by omega);have hz':=oZ hz
        have hxD:s.getD v.toNat 0=x:=by rw[List.getD_eq_getElem?_getD,hx'];rfl
        have hzD:q.getD p 0=z:=by rw[List.getD_eq_getElem?_getD,hz];rfl
        rw[Nat.zero_add] at hd ⊢;simp only[hx,hz',bnd_s,aJ (x:=x+z) (by omega) (by omega),rm2];obtain⟨s1,s2⟩:=set_len_bits (i:=v.toNat) hl hb (tmod01 (x:=x+z) (by omega));refine aB.s ⟨rfl,s1,s2,fun vs hvs=>?_⟩;have:=own_step hl (show v.toNat<V by omega) hb hqb (hd vs hvs) (by unfold atV;rw[List.getD_eq_getElem?_getD,List.getElem?_map,hp];rfl);rw[hxD,hzD] at this;exact this
      · cases a<;>cases a'<;>first | (rw[Nat.zero_add] at h;exact h) | exact h
      · obtain⟨rfl,hl,hb,hd⟩:=h
        obtain⟨z,hz,z0,z1⟩:=get01 hqb (k:=c.scope.length) (by omega);obtain⟨x,_,hx,_⟩:=ix01 hl hb (v:=(V:Int)) (by omega) (by omega)
        have e1:ck ((q.length:Int) - 1)=some ((c.scope.length:Nat):Int):=by rw[aJ (by omega) (by omega),show(q.length:Int) - 1=((c.scope.length:Nat):Int) by omega]
        refine aB.l e1 (aB.l (oZ hz) (aB.l hx (aB.r (oZ hz) (aB.r hx ?_))));obtain⟨hl2,hb2⟩:=set_len_bits (i:=(V:Int).toNat) hl hb (x:=z) ⟨z0,z1⟩
        have hzD:q.getD c.scope.length 0=z:=by rw[List.getD_eq_getElem?_getD,hz];rfl
        have hs2:∀ vs,VB V vs→(Evn V (own.set (V:Int).toNat z) vs↔Evn c.scope.length q (atV vs c.scope)):=fun vs hvs=>by
          have:=evn_own (q:=q) (n:=c.scope.length) hl (hd vs hvs);rw[hzD] at this;rw[Int.toNat_natCast];exact this
        generalize own.set (V:Int).toNat z=own2 at hl2 hb2 hs2 ⊢;rw[forL_map];refine aB.thn (fun s1 s'=>s1=s'∧s1.length=V+1∧aX s1∧(∀ vs,VB V vs→(∀ d∈s,Evn V d.left vs)→(Evn V s1 vs↔Evn c.scope.length q (atV vs c.scope)))∧∀ d∈s,s1.getD d.var.toNat 0=0) (fun _ _=>False) (aB.mono (aB.forL (fun k s1 s'=>s1=s'∧s1.length=V+1∧aX s1∧(∀ vs,VB V vs→(∀ d∈s,Evn V d.left vs)→(Evn V s1 vs↔Evn c.scope.length q (atV vs c.scope)))∧∀ (j:Nat) (d:told),j<k→s[j]?=some d→s1.getD d.var.toNat 0=0) (fun _ _=>False) ⟨rfl,hl2,hb2,fun vs hvs _=>hs2 vs hvs,fun j d h=>by omega⟩ (fun p d s1 s1' hp hR=>?_)) (fun a a' h=>?_)) (fun w w' h=>?_) (fun r r' h=>h.elim)
        · obtain⟨rfl,hl,hb,hse,hre⟩:=hR
          have hdm:=List.mem_of_getElem? hp;have hd:=hok d hdm;obtain⟨x,hx',hx,x0,x1⟩:=ix01 hl hb (v:=d.var) hd.v.1 (by have:=hd.v.2;omega)
          have hxD:s1.getD d.var.toNat 0=x:=by rw[List.getD_eq_getElem?_getD,hx'];rfl
          have ht:ix (s.map told.var) ((0+p:Nat):Int)=some d.var:=by
            refine oZ ?_;rw[Nat.zero_add,List.getElem?_map,hp]
            rfl
          have hdl:=hd.l;simp only[ht,hx,bnd_s,plus_eq (a:=s1) (b:=d.left) (by omega) (by omega) hb hd.b,l09Add_eq (N:=N) (a:=s1) (b:=d.left) (by omega) (by omega) (by omega) hb hd.b]
          by_cases h1:(x==1)=true
          · rw[if_pos h1,if_pos h1]
            refine aB.s ⟨rfl,by rw[addS_len (by omega)];exact hl,addS_bits hb hd.b,fun vs hvs hr=>(Evn_add (by omega) hb hd.b (hr d hdm)).trans (hse vs hvs hr),fun j' d' hj' hd'=>?_⟩;rw[addS_getD (by omega),hR.piv j' p d' d hd' hp]
            have hx1:x=1:=by simpa using h1
            by_cases e:j'=p
            · subst e
              rw[hp] at hd'
              cases hd'
              rw[hxD,hx1,if_pos rfl];rfl
            · rw[hre j' d' (by omega) hd',if_neg e];rfl
          · rw[if_neg h1,if_neg h1]
            refine aB.s ⟨rfl,hl,hb,hse,fun j' d' hj' hd'=>?_⟩
            by_cases e:j'=p
            · subst e
              rw[hp] at hd'
              cases hd'
              have hx1:x≠1:=by simpa using h1
              omega
            · exact hre j' d' (by omega) hd'
        · cases a<;>cases a'<;>first | exact⟨h.1,h.2.1,h.2.2.1,h.2.2.2.1,fun d hd=>by
            obtain⟨j',hj'⟩:=List.mem_iff_getElem?.1 hd
            exact h.2.2.2.2 j' d (by have:=(List.getElem?_eq_some_iff.1 hj').1;omega) hj'⟩ | exact h
        · obtain⟨rfl,hl,hb,hse,hre⟩:=h
          refine aB.l (Index1_eq w) ?_;have hfl:=fst_loop (ρ:=(Ctl ((List (List Int))×(List Int)) (Ctl ((List (List Int))×(List Int)) ((List Int)×Bool)))) hl (by omega) hb rfl N 0 (by omega) (Nat.zero_le _);rw[show((0:Nat):Int)=0 from rfl] at hfl;rw[hfl,thn_nx];have hf:=fstI_spec (fun x=>1==x) w 0
          rcases hf with ⟨h1,h9⟩ | ⟨p,h1,h9,h3,x,h4,h5⟩
          · rw[h1]
            simp only;obtain⟨x,hx,x0,x1⟩:=get01 hb (k:=V) (by omega);have hz0:=no_one hb h9
            have hxD:w.getD V 0=x:=by rw[List.getD_eq_getElem?_getD,hx];rfl
            have hx0:(x==1)=false:=by
              rw[beq_eq_false_iff_ne];intro h;rw[← hxD,hz0] at h
              omega
            rw[if_pos (by decide),if_pos (by simp),oZ hx,bnd_s,hx0,if_neg (by simp)];refine aB.s (hR.mono (by omega) (fun vs hvs=>?_))
            have hev:Evn V w vs:=by
              unfold Evn
              rw[dt_zero V (fun k _=>by rw[hz0];exact Int.zero_mul _),hz0]
              rfl
            exact⟨fun h=>⟨h.1,(htk vs).2 ⟨h.2,(hse vs hvs ((hR.sem vs hvs).1 h)).1 hev⟩⟩,fun h=>⟨h.1,((htk vs).1 h.2).1⟩⟩
          · rw[h9,Nat.zero_add]
            simp only
            have hx1:x=1:=by have:(1==x)=true:=h5;simp at this;omega
            subst hx1
            have hwp:w.getD p 0=1:=by rw[List.getD_eq_getElem?_getD,h4];rfl
            rw[if_neg (by simp)]
            by_cases hpV:p=V
            · subst hpV
              rw[if_pos (by simp),if_pos (by simp),oZ h4,bnd_s,if_pos (by rfl)];refine aB.s ⟨rfl,rfl,fun vs hS=>?_⟩;have hvs:=hVS hS;have hP:(∀ c∈y.cons.take j,conS t vs c=true)∧∀ q∈eqs.take i,Evn c.scope.length q (atV vs c.scope):=⟨fun c' hc'=>hS.2.2 c' (List.mem_of_mem_take hc'),fun q' hq'=>(hcon vs hvs).1 (hS.2.2 c hcm) q' (List.mem_of_mem_take hq')⟩;have hev:=(hse vs hvs ((hR.sem vs hvs).1 hP)).2 ((hcon vs hvs).1 (hS.2.2 c hcm) q hqm)
              unfold Evn at hev
              rw[dt_zero p (fun k hk=>by rw[take_one hb h3 hk];exact Int.zero_mul _),hwp] at hev
              omega
            · have hpn:((p:Int)==(V:Int))=false:=by rw[beq_eq_false_iff_ne];omega
              rw[hpn,if_neg (by simp),if_neg (by simp)]
              have hpV2:p<V:=by omega
              have hat:∀ d∈s,∃ z,ix d.left (p:Int)=some z∧d.left.getD p 0=z:=fun d hd=>by
                obtain⟨z,hz,_⟩:=get01 (hok d hd).b (k:=p) (by have:=(hok d hd).l;omega);exact⟨z,oZ hz,by rw[List.getD_eq_getElem?_getD,hz];rfl⟩
              rw[forL_upd (fun d:told=>{ d with left:=updR p w d.left }) s (fun k d st hk hst=>by
                have hd:=List.mem_of_getElem? hk;obtain⟨z,hz,hg⟩:=hat d hd;have h:=hok d hd;have hhl:=h.l;rw[oZ hst,bnd_s,hz,bnd_s,plus_eq (by omega) (by omega) h.b hb,Int.toNat_natCast]
                show _=some (Ctl.go (st.set k { d with left:=if d.left.getD p 0=1 then addS d.left w else d.left }))
                rw[hg]
                by_cases h1:z=1
                · rw[if_pos (by simpa using h1),if_pos h1,bnd_s]
                · rw[if_neg (by simpa using h1),if_neg h1]
                  show _=some (Ctl.go (st.set k d))
                  rw[set_same hst]),thn_nx]
              have hsl2:(s.map told.left).length=s.length:=List.length_map _
              rw[whl_upd (updR p w) (s.map told.left) (by omega) (fun k l st hk hst hstl=>by
                rw[List.getElem?_map] at hk;obtain⟨d,hd,rfl⟩:=Option.map_eq_some_iff.1 hk;have hkl:=(List.getElem?_eq_some_iff.1 hd).1;have hd:=List.mem_of_getElem? hd;obtain⟨z,hz,hg⟩:=hat d hd;have h:=hok d hd;have hhl:=h.l;simp only;rw[if_pos (by simp;omega),oZ hst,bnd_s,hz,bnd_s,l09Add_eq (by omega) (by omega) (by omega) h.b hb,Int.toNat_natCast,aJ (by omega) (by omega)]
                show _=some (Ctl.go (((k+1:Nat):Int),st.set k (if d.left.getD p 0=1 then addS d.left w else d.left)))
                rw[hg]
                by_cases h1:z=1
                · rw[if_pos (by simpa using h1),if_pos h1,bnd_s,bnd_s];rfl
                · rw[if_neg (by simpa using h1),if_neg h1,bnd_s,set_same hst]
                  rfl) (fun st hst=>by
                simp only
                rw[if_neg (by simp;omega)]) (by omega),thn_nx]
              simp only;have a1:ap (s.map fun d:told=>{ d with left:=updR p w d.left }) [told.mk w (p:Int)]=some ((s.map fun d:told=>{ d with left:=updR p w d.left })++[told.mk w (p:Int)]):=cK (by simp only[List.length_map,List.length_cons,List.length_nil];omega);have a2:ap ((s.map told.left).map (updR p w)) [w]=some (((s.map told.left).map (updR p w))++[w]):=cK (by simp only[List.length_map,List.length_cons,List.length_nil];omega);have a3:ap (s.map told.var) [(p:Int)]=some ((s.map told.var)++[(p:Int)]):=cK (by simp only[List.length_map,List.length_cons,List.length_nil];omega);rw[a1,a2,a3,bnd_s,bnd_s,bnd_s];exact aB.s ((push_rows hR hl hb hpV2 hwp hse hre).mono (by omega) (fun vs _=>⟨fun h=>⟨h.1.1,(htk vs).2 ⟨h.1.2,h.2⟩⟩,fun h=>⟨⟨h.1,((htk vs).1 h.2).1⟩,((htk vs).1 h.2).2⟩⟩))
    · cases a<;>cases a'<;>first | exact h.mono (by omega) (fun vs _=>by rw[Nat.zero_add,List.take_length]) | exact h
    · refine aB.s (h.mono (by omega) (fun vs hvs=>?_))
      rw[List.take_add_one,hj];simp only[Option.toList,List.mem_append,List.mem_singleton];exact⟨fun h c' hc'=>hc'.elim (h.1 c') (fun e=>e ▸ (hcon vs hvs).2 h.2),fun h=>⟨fun c' hc'=>h c' (.inl hc'),(hcon vs hvs).1 (h c (.inr rfl))⟩⟩
  · cases a<;>cases a'<;>first | exact h.mono (by omega) (fun vs _=>by rw[Nat.zero_add,List.take_length]) | exact h
  ·
    have hok:=h.ok;have hsl:=h.le;obtain rfl:=h.e
    have hz:mkz (0:Int) (V:Int)=some (List.replicate V 0):=by
      unfold mkz
      rw[if_pos ⟨by omega,by omega⟩,Int.toNat_natCast]
    refine aB.l hz (aB.r hz ?_);rw[forL_map]
    refine aB.thn (fun s1 s'=>s1=s'∧s1.length=V∧aX s1∧(∀ (j:Nat) (d:told),s[j]?=some d→s1.getD d.var.toNat 0=d.left.getD V 0)∧∀ v,(∀ d∈s,d.var.toNat≠v)→s1.getD v 0=0) (fun _ _=>False) (aB.mono (aB.forL (fun k s1 s'=>s1=s'∧s1.length=V∧aX s1∧(∀ (j:Nat) (d:told),j<k→s[j]?=some d→s1.getD d.var.toNat 0=d.left.getD V 0)∧∀ v,(∀ d∈s,d.var.toNat≠v)→s1.getD v 0=0) (fun _ _=>False) ⟨rfl,List.length_replicate,(fun a ha=>by rw[List.eq_of_mem_replicate ha];omega),(fun j d h=>by omega),fun v _=>by
      rw[List.getD_eq_getElem?_getD,List.getElem?_replicate]
      split<;>rfl⟩ (fun p d s1 s1' hp hR=>?_)) (fun a a' h=>?_)) (fun w w' hw=>?_) (fun r r' h=>h.elim)
    · obtain⟨rfl,hl,hb,h1,h0⟩:=hR
      have hdm:=List.mem_of_getElem? hp;have hd:=hok d hdm
      have ht:ix (s.map told.var) ((0+p:Nat):Int)=some d.var:=by
        refine oZ ?_;rw[Nat.zero_add,List.getElem?_map,hp]
        rfl
      obtain⟨x,hx',hx,hx2⟩:=ix01 hd.l hd.b (v:=(V:Int)) (by omega) (by omega)
      have hxD:d.left.getD V 0=x:=by rw[List.getD_eq_getElem?_getD];rw[Int.toNat_natCast] at hx';rw[hx'];rfl
      have hv2:=hd.v;have hw:ix s1 d.var=some (s1[d.var.toNat]'(by omega)):=iM hd.v.1 (List.getElem?_eq_getElem (by omega));simp only[ht,hx,hw,bnd_s];obtain⟨b1,b2⟩:=set_len_bits (i:=d.var.toNat) hl hb hx2;refine aB.s ⟨rfl,b1,b2,fun j' d' hj' hd'=>?_,fun v hvv=>?_⟩
      · rw[setD x (by omega)]
        by_cases e:j'=p
        · subst e
          rw[hp] at hd'
          cases hd'
          rw[if_pos rfl,hxD]
        · have hne:d'.var.toNat≠d.var.toNat:=fun e2=>by
            have q1:=h.piv j' p d' d hd' hp;have q2:=h.piv p p d d hp hp;rw[e2,q2,if_pos rfl,if_neg e] at q1
            omega
          rw[if_neg hne];exact h1 j' d' (by omega) hd'
      · rw[setD x (by omega),if_neg (fun e=>hvv d hdm e.symm)]
        exact h0 v hvv
    · cases a<;>cases a'<;>first | exact⟨h.1,h.2.1,h.2.2.1,fun j' d' hj'=>h.2.2.2.1 j' d' (by have:=(List.getElem?_eq_some_iff.1 hj').1;omega) hj',h.2.2.2.2⟩ | exact h
    · obtain⟨rfl,hl,hb,h1,h0⟩:=hw
      refine aB.s ⟨rfl,by show w.length≤10;omega,fun _=>⟨by show(w.length:Int)=y.vars;omega,hb,?_⟩,fun h=>nomatch h⟩;exact(h.sem w ⟨hl,hb⟩).2 (out_sol h.piv hok h1 h0)
end Go.Proofs.YtgnfibiaaipibaaGreat
namespace Go.Proofs.YtgnfibiaaipibaaGreat
set_option linter.unusedVariables false
set_option linter.unusedSimpArgs false
theorem rep_loop {ρ:Type} {T:Int} {f:Nat→List (List Int)→Option (Ctl (List (List Int)) ρ)} {d:List Int} (hf:∀ k s,s.length≤1000→f k s=some (.go (s++[d]))):∀ (m k:Nat) (s:List (List Int)),s.length+m≤1000→zH f m k s=some (.nx (s++List.replicate m d))
  | 0,k,s,h=>by simp [zH]
  | m+1,k,s,h=>by
    rw[eG (hf k s (by omega)),rep_loop (T:=T) hf m (k+1) _ (by simp;omega),List.replicate_succ,List.append_assoc]
    rfl
theorem full_impl {T:Nat} {t:Template} {y:Instance} (hu:TV T t) (hv:1≤y.vars∧y.vars≤10):cO t y=some (List.replicate y.vars.toNat (iotA 0 T)):=by
  have hT:=hu.t
  unfold cO
  rw[rep_loop (T:=0) (d:=iotA 0 T) (fun k s hs=>by
    rw[hu.s,upTo_eq (by omega) (by omega),bnd_s,cK (by simp only[List.length_cons,List.length_nil];omega),bnd_s]) y.vars.toNat 0 [] (by simp only[List.length_nil];omega),thn_nx,List.nil_append]
theorem full_spec {T:Nat} {t:Template} {y:Instance} (hu:TV T t) (hv:1≤y.vars∧y.vars≤10):iU t y=some (List.replicate y.vars.toNat (iotA 0 T)):=by
  have hT:=hu.t
  unfold iU
  rw[rep_loop (T:=0) (d:=iotA 0 T) (fun k s hs=>by
    rw[hu.s,Count_eq (by omega),bnd_s,cK (by simp only[List.length_cons,List.length_nil];omega),bnd_s]) y.vars.toNat 0 [] (by simp only[List.length_nil];omega),thn_nx,List.nil_append]
theorem tot_rep (m:Nat) (d:List Int):tot (List.replicate m d)=m*d.length:=by
  unfold tot
  rw[List.map_replicate,List.sum_replicate_nat]
theorem iotA_nodup (V:Int) (m:Nat):(iotA V m).Nodup:=by
  unfold iotA
  refine List.Pairwise.map _ (fun a b h=>?_) (List.nodup_range (n:=m));intro h2;exact h (by omega)
theorem cv_conOk {T:Nat} {t:Template} {y:Instance} (hu:TV T t) {c:Con} (h:CV t y.vars c) (hv:1≤y.vars):ConOk t c y.vars.toNat:=by
  obtain⟨h1,r,r0,r1,r2,r3⟩:=h;obtain⟨n,e,n1,n4,_,hm⟩:=hu.r r r2;exact⟨⟨r,iM r0 r1,fun a ha=>by have:=(dN.1 (hm a ha)).1;omega⟩,fun v hv=>by have:=h1 v hv;omega,by omega⟩
theorem cv_cw {T:Nat} {t:Template} {n:Int} (hu:TV T t) {c:Con} (h:CV t n c):CW t n c:=by
  obtain⟨h1,r,r0,r1,r2,r3⟩:=h;obtain⟨m,e,n1,n4,_,hm⟩:=hu.r r r2;exact⟨⟨h1,r,r0,r1,r2,r3⟩,by omega⟩
theorem at_len (vs sc:List Int):(atV vs sc).length=sc.length:=by unfold atV;exact List.length_map _
theorem at_get {vs sc:List Int} {k:Nat} {v:Int} (h:sc[k]?=some v):(atV vs sc).getD k 0=vs.getD v.toNat 0:=by unfold atV;rw[List.getD_eq_getElem?_getD,List.getElem?_map,h];rfl
theorem ag_at (vs sc:List Int):agB sc (atV vs sc)=true:=by
  unfold agB
  rw[Bool.not_eq_true',List.any_eq_false];intro k hk;rw[Bool.not_eq_true,List.any_eq_false];intro q hq;rw[List.mem_range'_1] at hk hq
  unfold agP
  have hkl:sc[k]?=some (sc.getD k 0):=by rw[List.getD_eq_getElem?_getD,List.getElem?_eq_getElem (by omega)];rfl
  have hql:sc[q]?=some (sc.getD q 0):=by rw[List.getD_eq_getElem?_getD,List.getElem?_eq_getElem (by omega)];rfl
  rw[at_get hkl,at_get hql];intro h;simp only[Bool.and_eq_true,beq_iff_eq,bne_iff_ne,ne_eq] at h;exact h.2 (by rw[h.1])
theorem left_at (dom:List (List Int)) (vs:List Int):∀ sc:List Int,(∀ v∈sc,vs.getD v.toNat 0∈dom.getD v.toNat [])→leftB dom sc (atV vs sc)=true
  | [],_=>rfl
  | v::sc,h=>by
    have ih:=left_at dom vs sc (fun w hw=>h w (by simp [hw]))
    show((dom.getD v.toNat []).any (· == vs.getD v.toNat 0) && leftB dom sc (atV vs sc))=true
    rw[ih,Bool.and_true,List.any_eq_true];exact⟨_,h v (by simp),by simp⟩
theorem left_get (dom:List (List Int)):∀ (sc t:List Int),leftB dom sc t=true→∀ (k:Nat) (v a:Int),sc[k]?=some v→t[k]?=some a→a∈dom.getD v.toNat []
  | [],_,_,k,v,a,h1,_=>by simp at h1
  | w::sc,[],_,k,v,a,_,h2=>by simp at h2
  | w::sc,b::t,h,k,v,a,h1,h2=>by
    unfold leftB at h
    rw[Bool.and_eq_true] at h
    cases k with
    | zero=>
      simp at h1 h2
      subst h1 h2;obtain⟨z,hz,e⟩:=List.any_eq_true.1 h.1;rw[beq_iff_eq] at e;exact e ▸ hz
    | succ k=>exact left_get dom sc t h.2 k v a (by simpa using h1) (by simpa using h2)
structure DK (t:Template) (y:Instance) (dom:List (List Int)):Prop where
  b:∀ d∈dom,d∈[[],[0],[1],[0,1]]
  s:∀ vs,Sol t y vs→∀ v,v<y.vars.toNat→vs.getD v 0∈dom.getD v []
theorem bits_filter:∀ d∈([[],[0],[1],[0,1]]:List (List Int)),∀ e:List Int,e.Sublist d→e∈([[],[0],[1],[0,1]]:List (List Int)):=by
  intro d hd e he;simp only[List.mem_cons,List.not_mem_nil,or_false] at hd ⊢
  rcases hd with rfl | rfl | rfl | rfl
  · simp at he;simp [he]
  · rcases List.sublist_cons_iff.1 he with h | ⟨r,rfl,h⟩
    · simp at h;simp [h]
    · simp at h;simp [h]
  · rcases List.sublist_cons_iff.1 he with h | ⟨r,rfl,h⟩
    · simp at h;simp [h]
    · simp at h;simp [h]
  · rcases List.sublist_cons_iff.1 he with h | ⟨r,rfl,h⟩
    · rcases List.sublist_cons_iff.1 h with h | ⟨r,rfl,h⟩
      · simp at h;simp [h]
      · simp at h;simp [h]
    · rcases List.sublist_cons_iff.1 h with h | ⟨r,rfl,h⟩
      · simp at h;simp [h]
      · simp at h;simp [h]
theorem sol_hit {t:Template} {y:Instance} {c:Con} {vs:List Int} {dom:List (List Int)} {p:Nat} {v:Int} (hC:CV t y.vars c) (hcm:c∈y.cons) (hS:Sol t y vs) (hd:∀ v,v<y.vars.toNat→vs.getD v 0∈dom.getD v []) (hp:c.scope[p]?=some v):arcB t c dom p (vs.getD v.toNat 0)=true:=by
  obtain⟨hsc,r,r0,r1,r2,r3⟩:=hC
  unfold arcB
  rw[iM r0 r1,Option.getD_some,List.any_eq_true];have h:=hS.2.2 c hcm
  unfold conS at h
  rw[decide_eq_true_iff,List.getD_eq_getElem?_getD,r1] at h;refine⟨_,h,?_⟩
  unfold supT
  rw[at_get hp,ag_at,left_at dom vs c.scope (fun w hw=>hd _ (by have:=hsc w hw;omega))]
  simp
theorem DK.stay {t:Template} {y:Instance} {c:Con} (hC:CV t y.vars c) (hcm:c∈y.cons) (p:Nat) (v:Int) (hp:c.scope[p]?=some v):Stay (DK t y) t c p v:=fun dom a h hb=>by
  refine⟨fun d hd=>?_,fun vs hS w hw=>?_⟩
  · rcases List.mem_or_eq_of_mem_set hd with hd | rfl
    · exact h.b d hd
    · by_cases hv:v.toNat<dom.length
      · refine bits_filter _ (h.b (dom.getD v.toNat []) ?_) _ List.filter_sublist
        rw[List.getD_eq_getElem?_getD,List.getElem?_eq_getElem hv];exact List.getElem_mem hv
      · rw[List.getD_eq_getElem?_getD,List.getElem?_eq_none (by omega)];simp
  · have h1:=h.s vs hS w hw
    by_cases hv:w=v.toNat
    · subst hv
      have hl:v.toNat<dom.length:=by
        rcases Nat.lt_or_ge v.toNat dom.length with h2 | h2
        · exact h2
        · rw[List.getD_eq_getElem?_getD (l:=dom),List.getElem?_eq_none h2] at h1
          simp at h1
      rw[List.getD_eq_getElem?_getD (l:=dom.set _ _),List.getElem?_set_self hl,Option.getD_some,List.mem_filter];refine⟨h1,?_⟩;rw[bne_iff_ne];intro e;have:=sol_hit hC hcm hS (h.s vs hS) hp;rw[e,hb] at this
      cases this
    · rw[List.getD_eq_getElem?_getD (l:=dom.set _ _),List.getElem?_set_ne (fun e=>hv e.symm)]
      rw[List.getD_eq_getElem?_getD (l:=dom)] at h1;exact h1
def lstD (b:Bool) (d:List Int):Int:=if b then d.getLastD 0 else d.headD 0
def mmB (b:Bool) (x z:Int):Int:=if b then max x z else min x z
theorem lst_ok:∀ b:Bool,∀ d∈([[],[0],[1],[0,1]]:List (List Int)),d≠[]→lstD b d∈d∧(lstD b d=0∨lstD b d=1)∧∀ x∈d,mmB b (lstD b d) x=lstD b d∧mmB b x (lstD b d)=lstD b d:=by decide
def MinOk (b:Bool) (r:Rel):Prop:=r.arity≤2∧∀ x z x' z':Int,[x,z]∈r.tuples→[x',z']∈r.tuples→[mmB b x x',mmB b z z']∈r.tuples
theorem least_sol {t:Template} {y:Instance} {b:Bool} {T:Nat} (hu:TV T t) (hv:1≤y.vars∧y.vars≤10) (hC:∀ c∈y.cons,CV t y.vars c) (hM:∀ r∈t.rels,MinOk b r) {dom:List (List Int)} (hl:dom.length=y.vars.toNat) (hK:DK t y dom) (hS:SupC t y y.cons.length dom) (hne:∀ d∈dom,d≠[]):Sol t y (dom.map (lstD b)):=by
  have hat:∀ v,v<y.vars.toNat→dom.getD v []∈dom:=fun v h=>by rw[List.getD_eq_getElem?_getD,List.getElem?_eq_getElem (by omega)];exact List.getElem_mem _
  have hlv:∀ v,v<y.vars.toNat→(dom.map (lstD b)).getD v 0=lstD b (dom.getD v []):=fun v h=>by
    rw[List.getD_eq_getElem?_getD,List.getD_eq_getElem?_getD,List.getElem?_map,List.getElem?_eq_getElem (by omega)];rfl
  refine⟨by rw[List.length_map];omega,fun a ha=>?_,fun c hc=>?_⟩
  · obtain⟨d,hd,rfl⟩:=List.mem_map.1 ha
    have:=(lst_ok b d (hK.b d hd) (hne d hd)).2.1
    omega
  · obtain⟨hsc,r,r0,r1,r2,r3⟩:=hC c hc
    obtain⟨h2,hm⟩:=hM r r2;obtain⟨n,e,n1,_,_,hen⟩:=hu.r r r2
    unfold conS
    rw[decide_eq_true_iff,List.getD_eq_getElem?_getD,r1]
    show atV _ c.scope∈r.tuples
    have hs:∀ p v,c.scope[p]?=some v→v.toNat<y.vars.toNat∧∃ u∈r.tuples,u.length=c.scope.length∧u.getD p 0=lstD b (dom.getD v.toNat [])∧∀ (k:Nat) (w x:Int),c.scope[k]?=some w→u[k]?=some x→x∈dom.getD w.toNat []:=fun p v hp=>by
      have hvn:=hsc v (List.mem_of_getElem? hp)
      have hvn:v.toNat<y.vars.toNat:=by omega
      have hd:=hat _ hvn;have h:=hS c (by rw[List.take_length];exact hc) p v hp _ (lst_ok b _ (hK.b _ hd) (hne _ hd)).1
      unfold arcB at h
      rw[iM r0 r1,Option.getD_some,List.any_eq_true] at h;obtain⟨u,hu1,hu2⟩:=h
      unfold supT at hu2
      rw[Bool.and_eq_true,Bool.and_eq_true,beq_iff_eq] at hu2;exact⟨hvn,u,hu1,by have:=(dN.1 (hen u hu1)).1;omega,hu2.1,left_get dom _ _ hu2.2.2⟩
    match hcs:c.scope,hs,r3 with
    | [],hs,r3=>simp at r3;omega
    | [v],hs,r3=>
      obtain⟨hvn,u,h1,h3,h4,h5⟩:=hs 0 v rfl
      match u,h3 with
      | [x],_=>
        have h4:x=lstD b (dom.getD v.toNat []):=h4
        show[(dom.map (lstD b)).getD v.toNat 0]∈r.tuples
        rw[hlv _ hvn,← h4];exact h1
    | [v,w],hs,r3=>
      obtain⟨hvn,u,h1,h3,h4,h5⟩:=hs 0 v rfl;obtain⟨hwn,u',h1',h3',h4',h5'⟩:=hs 1 w rfl
      match u,h3,u',h3' with
      | [x,z],_,[x',z'],_=>
        have h4:x=lstD b (dom.getD v.toNat []):=h4;have h4':z'=lstD b (dom.getD w.toNat []):=h4';have hz:=h5 1 w z rfl rfl;have hx':=h5' 0 v x' rfl rfl;have hdv:=hat _ hvn;have hdw:=hat _ hwn;have:=hm x z x' z' h1 h1';rw[h4,((lst_ok b _ (hK.b _ hdv) (hne _ hdv)).2.2 x' hx').1,h4',((lst_ok b _ (hK.b _ hdw) (hne _ hdw)).2.2 z hz).2] at this
        show[(dom.map (lstD b)).getD v.toNat 0,(dom.map (lstD b)).getD w.toNat 0]∈r.tuples
        rw[hlv _ hvn,hlv _ hwn];exact this
    | _::_::_::_,_,r3=>simp at r3;omega
theorem Least_two {N:Nat} {t:Template} {y:Instance} (b:Bool) (hu:TV 2 t) (hv:1≤y.vars∧y.vars≤10) (hC:∀ c∈y.cons,CV t y.vars c) (hM:∀ r∈t.rels,MinOk b r) (hN:1100≤N):aB (eT N t y b) (fL N t y b) (fun r r'=>r=r'∧r.1.length≤10∧Ans t y r):=by
  have hT:=hu.t
  have hK0:DK t y (List.replicate y.vars.toNat (iotA 0 2)):=⟨fun d hd=>by rw[List.eq_of_mem_replicate hd];decide,fun vs hS v hv=>by
    rw[List.getD_eq_getElem?_getD (l:=List.replicate _ _),List.getElem?_replicate,if_pos hv,Option.getD_some,show iotA 0 2=[0,1] from rfl]
    rcases bitD hS.2.1 v with e | e<;>rw[e]<;>simp⟩
  unfold eT fL spec_l05Arcs
  have f1:cO (Template.mk t.size t.rels) (Instance.mk y.vars y.cons)=some (List.replicate y.vars.toNat (iotA 0 2)):=full_impl hu hv;rw[f1,full_spec hu hv,bnd_s,bnd_s]
  have ht:tot (List.replicate y.vars.toNat (iotA 0 2))≤40:=by
    rw[tot_rep,iotA_len];exact Nat.le_trans (Nat.mul_le_mul (show y.vars.toNat≤10 by omega) hT.2) (Nat.le_refl _)
  obtain⟨r,r',h1,h2,rfl,h4,h5,hk,hsu⟩:=arcs_two (fun c hc p v hp=>DK.stay (hC c hc) hc p v hp) hK0 (N:=N) (x:=t) (y:=y) (n:=y.vars.toNat) (dom:=List.replicate y.vars.toNat (iotA 0 2)) (by omega) (fun c hc=>cv_conOk hu (hC c hc) hv.1) ⟨List.length_replicate,fun d hd=>by rw[List.eq_of_mem_replicate hd];exact iotA_nodup _ _,Nat.le_refl _⟩ (by omega) (by omega) (by omega) (by omega);have h1':fJ N (Template.mk t.size t.rels) (Instance.mk y.vars y.cons) (List.replicate y.vars.toNat (iotA 0 2)) iD=some r:=h1;rw[h1',h2,bnd_s,bnd_s,bnd_s];have hl:=h4.len
  have hbad:[]∈r.2→∀ vs,¬ Sol t y vs:=fun h vs hS=>by
    obtain⟨v,hv⟩:=List.mem_iff_getElem?.1 h;have hvl:=(List.getElem?_eq_some_iff.1 hv).1;have:=hk.s vs hS v (by omega);rw[List.getD_eq_getElem?_getD (l:=r.2),hv] at this
    simp at this
  refine aB.thn (fun s s'=>s=s'∧s=r.2.map (lstD b)∧∀ d∈r.2,d≠[]) (fun r r'=>r=r'∧r.1.length≤10∧Ans t y r) (aB.mono (aB.forL (fun k s s'=>s=s'∧s.length=k∧s=(r.2.take k).map (lstD b)∧∀ d∈r.2.take k,d≠[]) (fun r r'=>r=r'∧r.1.length≤10∧Ans t y r) ⟨rfl,rfl,rfl,fun d hd=>by simp at hd⟩ (fun j d s s' hj hR=>?_)) (fun a a' h=>?_)) (fun a a' h=>aB.s ⟨by rw[h.1],by rw[h.2.1];show(List.map _ _).length≤10;rw[List.length_map];omega,fun _=>by rw[h.2.1];exact least_sol hu hv hC hM (by omega) hk hsu h.2.2,fun h=>nomatch h⟩) (fun _ _ h=>h)
  · obtain⟨rfl,hs,hse,hsn⟩:=hR
    rw[Nat.zero_add] at hs hse hsn ⊢
    have htk:r.2.take (j+1)=r.2.take j++[d]:=by rw[List.take_add_one,hj];rfl
    have hjl:j<r.2.length:=(List.getElem?_eq_some_iff.1 hj).1;have hdl:=len_le_tot (List.mem_of_getElem? hj);have hle:=h4.le
    match d with
    | []=>exact aB.s ⟨rfl,Nat.zero_le _,(fun h=>nomatch h),fun _=>hbad (List.mem_of_getElem? hj)⟩
    | a::d=>
      have e0:(((a::d).length:Int)==0)=false:=by rw[List.length_cons,beq_eq_false_iff_ne];omega
      have e1:ix (a::d) 0=some a:=rfl
      have e2:ck (((a::d).length:Int) - 1)=some ((((a::d).length - 1:Nat)):Int):=by
        rw[aJ (by omega) (by omega),show((a::d).length:Int) - 1=(((a::d).length - 1:Nat):Int) by rw[List.length_cons];omega]
      have e3:ix (a::d) (((a::d).length - 1:Nat):Int)=some (lstD true (a::d)):=oZ (by
        rw[← List.getLast?_eq_getElem?]
        show _=some ((a::d).getLastD 0)
        rw[List.getLastD_eq_getLast?,List.getLast?_cons];rfl)
      have hn:∀ d'∈r.2.take (j+1),d'≠[]:=fun d' hd'=>by
        rw[htk] at hd'
        rcases List.mem_append.1 hd' with h | h
        · exact hsn d' h
        · rw[List.mem_singleton] at h;rw[h];exact List.cons_ne_nil _ _
      have hm:∀ w,w=lstD b (a::d)→s++[w]=(r.2.take (j+1)).map (lstD b):=fun w hw=>by rw[htk,List.map_append,← hse,hw];rfl
      have e4:∀ w:Int,ap s [w]=some (s++[w]):=fun w=>cK (by simp only[List.length_cons,List.length_nil];omega);rw[e0];simp only[Bool.false_eq_true,if_false,e1,bnd_s]
      cases b with
      | true=>
        simp only[if_true,e2,e3,e4,bnd_s,thn_nx];exact aB.s ⟨rfl,by rw[List.length_append,List.length_singleton];omega,hm _ rfl,hn⟩
      | false=>
        simp only[Bool.false_eq_true,if_false,e4,bnd_s,thn_nx];exact aB.s ⟨rfl,by rw[List.length_append,List.length_singleton];omega,hm _ rfl,hn⟩
  · cases a<;>cases a'<;>first | (rw[Nat.zero_add,List.take_length] at h;exact⟨h.1,h.2.2⟩) | exact h
end Go.Proofs.YtgnfibiaaipibaaGreat
namespace Go.Proofs.YtgnfibiaaipibaaGreat
set_option linter.unusedVariables false
set_option linter.unusedSimpArgs false
set_option maxRecDepth 100000
def Rng (T:Int) (vs:List Int):Prop:=∀ x∈vs,0≤x∧x<T
theorem atV_take {vs args:List Int} {n:Nat} (h:∀ i∈args,0≤i∧i<(n:Int)):atV (vs.take n) args=atV vs args:=by
  unfold atV
  apply List.map_congr_left
  intro i hi;have:=h i hi;rw[List.getD_eq_getElem?_getD,List.getD_eq_getElem?_getD,List.getElem?_take,if_pos (by omega)]
theorem atomS_congr {u:Template} {a:Atom} {vs ws:List Int} (h:atV vs a.args=atV ws a.args):atomS u a vs=atomS u a ws:=by unfold atomS;rw[h]
theorem findS_ext {u:Template} {f:Formula}:∀ (d:Nat) (vs ws:List Int),dP u f d vs=some ws→ws.length=vs.length+d∧ws.take vs.length=vs∧(∀ n,vs.length<n→n≤vs.length+d→gG u f (ws.take n)=true)∧∀ x∈ws.drop vs.length,0≤x∧x<(u.size.toNat:Int)
  | 0,vs,ws,h=>by
    obtain rfl:=Option.some.inj h;exact⟨rfl,List.take_of_length_le (Nat.le_refl _),fun n h1 h2=>by omega,fun x hx=>by rw[List.drop_of_length_le (Nat.le_refl _)] at hx;cases hx⟩
  | d+1,vs,ws,h=>by
    rw[dP] at h;obtain⟨a,ha,h⟩:=List.exists_of_findSome?_eq_some h;have ha':=(List.mem_range'_1.1 ha).2
    split at h
    · rename_i hs
      obtain⟨h1,h2,h3,h4⟩:=findS_ext d _ ws h
      have hl:(vs++[(a:Int)]).length=vs.length+1:=by simp
      rw[hl] at h1 h2 h3 h4
      have e2:ws.take vs.length=vs:=by
        have:=congrArg (List.take vs.length) h2;rw[List.take_take,Nat.min_eq_left (by omega),List.take_append_of_le_length (Nat.le_refl _),List.take_of_length_le (Nat.le_refl _)] at this;exact this
      refine⟨by omega,e2,fun n h5 h6=>?_,fun x hx=>?_⟩
      · by_cases e:n=vs.length+1
        · rw[e,h2];exact hs
        · exact h3 n (by omega) (by omega)
      · rw[List.drop_eq_getElem_cons (by omega)] at hx
        rcases List.mem_cons.1 hx with rfl | hx
        · have e3:ws[vs.length]?=some (a:Int):=by
            have:=congrArg (fun l=>l[vs.length]?) h2;simp only[List.getElem?_take,Nat.lt_succ_self,if_true] at this;rw[this]
            simp
          rw[List.getElem?_eq_getElem (by omega)] at e3;rw[Option.some.inj e3]
          omega
        · exact h4 x hx
    · cases h
theorem findS_some {u:Template} {f:Formula} {Y:List Int} (hY:∀ n,1≤n→n≤Y.length→gG u f (Y.take n)=true) (hr:Rng u.size.toNat Y):∀ (d k:Nat),k+d=Y.length→(dP u f d (Y.take k)).isSome=true
  | 0,k,_=>rfl
  | d+1,k,hk=>by
    have hlt:k<Y.length:=by omega
    have e:Y.take k++[Y[k]]=Y.take (k+1):=by rw[List.take_add_one,List.getElem?_eq_getElem hlt];rfl
    have hx:=hr _ (List.getElem_mem hlt)
    cases hq:dP u f (d+1) (Y.take k) with
    | some _=>rfl
    | none=>
      rw[dP] at hq;have:=List.findSome?_eq_none_iff.1 hq Y[k].toNat (List.mem_range'_1.2 ⟨by omega,by omega⟩);rw[Int.toNat_of_nonneg hx.1,e,if_pos (hY (k+1) (by omega) (by omega))] at this;have h2:=findS_some hY hr d (k+1) (by omega);rw[this] at h2
      cases h2
theorem AV.rg {T:Nat} {u:Template} {n:Nat} {a:Atom} (hu:TV T u) (h:AV u n a):0≤mx a.args∧mx a.args<(n:Int)∧∀ i∈a.args,0≤i∧i≤mx a.args:=by
  have hl:=h.len hu
  have hn:(0:Int)<n:=by
    cases e:a.args with
    | nil=>rw[e] at hl;simp at hl
    | cons i r=>have:=h.1 i (by rw[e];simp);omega
  have:=mx_lt h.1 hn;exact⟨this.1,this.2,fun i hi=>⟨(h.1 i hi).1,(mx_le (l:=a.args) (s:=0)).2 i hi⟩⟩
theorem sure_of {T:Nat} {u:Template} {f:Formula} {Y:List Int} (hu:TV T u) (ha:∀ a∈f.atoms,AV u f.vars.toNat a) (hA:∀ a∈f.atoms,atomS u a Y=true) {n:Nat} (h1:1≤n) (h2:n≤Y.length):gG u f (Y.take n)=true:=by
  unfold gG
  rw[List.all_eq_true];intro a hm;obtain⟨h3,h4,h5⟩:=(ha a hm).rg hu
  have hl:((Y.take n).length:Int)=n:=by rw[List.length_take];omega
  rw[hl]
  by_cases e:mx a.args=(n:Int) - 1
  · rw[decide_eq_true e,atomS_congr (atV_take (fun i hi=>by have:=h5 i hi;omega)),hA a hm]
    rfl
  · rw[decide_eq_false e]
    rfl
theorem find_sol {u:Template} {y:Instance} {o:List Int} (hu:TV 2 u) (hC:∀ c∈y.cons,CV u y.vars c) (hv:1≤y.vars) (h:dP u (fY 1 y) y.vars.toNat []=some o):Sol u y o:=by
  obtain⟨h1,h2,h3,h4⟩:=findS_ext _ _ _ h;rw[List.length_nil,Nat.zero_add] at h1 h3;rw[List.length_nil,List.drop_zero,hu.s] at h4;refine⟨by omega,fun a ha=>by have:=h4 a ha;omega,fun c hc=>?_⟩;have hw:=cv_cw hu (hC c hc);have hA:AV u y.vars.toNat ⟨c.rel,c.scope⟩:=⟨fun i hi=>by have:=hw.1.1 i hi;show 0≤i∧i<(y.vars.toNat:Int);omega,.inr hw.1.2⟩;obtain⟨k3,k4,k5⟩:=hA.rg hu;rw[← fY_atom hw];have hs:=h3 ((mx c.scope).toNat+1) (by simp) (by have:mx c.scope<(y.vars.toNat:Int):=k4;omega)
  unfold gG at hs
  have hs2:=List.all_eq_true.1 hs ⟨c.rel,c.scope⟩ (List.mem_map.2 ⟨c,hc,rfl⟩);have k3':0≤mx c.scope:=k3;have k4':mx c.scope<(y.vars.toNat:Int):=k4
  have hl2:((o.take ((mx c.scope).toNat+1)).length:Int) - 1=mx c.scope:=by rw[List.length_take];omega
  rw[hl2,decide_eq_true (show mx (Atom.mk c.rel c.scope).args=mx c.scope from rfl),Bool.not_true,Bool.false_or,atomS_congr (atV_take (fun i hi=>by have:=k5 i hi;have k6:mx (Atom.mk c.rel c.scope).args=mx c.scope:=rfl;omega))] at hs2;exact hs2
theorem sol_find {u:Template} {y:Instance} {vs:List Int} (hu:TV 2 u) (hC:∀ c∈y.cons,CV u y.vars c) (hS:Sol u y vs):(dP u (fY 1 y) y.vars.toNat []).isSome=true:=by
  have hl:=hS.1
  have:=findS_some (u:=u) (f:=fY 1 y) (Y:=vs) (fun n h1 h2=>sure_of hu (fun a ha=>by
    obtain⟨c,hc,rfl⟩:=List.mem_map.1 ha;have hw:=cv_cw hu (hC c hc)
    exact⟨fun i hi=>by have:=hw.1.1 i hi;show 0≤i∧i<(y.vars.toNat:Int);omega,.inr hw.1.2⟩) (fun a ha=>by
    obtain⟨c,hc,rfl⟩:=List.mem_map.1 ha;rw[fY_atom (cv_cw hu (hC c hc))]
    exact hS.2.2 c hc) h1 h2) (fun x hx=>by have:=hS.2.1 x hx;rw[hu.s];show 0≤x∧x<(((2:Nat):Int).toNat:Int);omega) vs.length 0 (by omega)
  rw[show y.vars.toNat=vs.length by omega];exact this
end Go.Proofs.YtgnfibiaaipibaaGreat
