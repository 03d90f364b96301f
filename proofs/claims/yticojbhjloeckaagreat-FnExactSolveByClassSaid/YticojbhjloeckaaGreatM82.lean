import Derived.Test.YticojbhjloeckaaGreatM74
import Derived.Test.YticojbhjloeckaaGreatY
namespace Go.Proofs.YticojbhjloeckaaGreat
set_option linter.unusedVariables false
set_option linter.unusedSimpArgs false
theorem forL_map {α β σ ρ:Type} (f:α→β) {g:Nat→β→σ→Option (Ctl σ ρ)}:∀ (l:List α) (k:Nat) (s:σ),qK g (l.map f) k s=qK (fun k x s=>g k (f x) s) l k s
  | [],_,_=>rfl
  | x::l,k,s=>by
    rw[List.map_cons];simp only[qK]
    cases h:g k (f x) s with
    | none=>rfl
    | some c=>cases c with
      | go t=>exact forL_map f l (k+1) t
      | _=>rfl
theorem set_same {α:Type} {l:List α} {k:Nat} {x:α} (h:l[k]?=some x):l.set k x=l:=by
  apply List.ext_getElem?
  intro a
  by_cases ha:k=a
  · subst ha
    rw[List.getElem?_set_self ((List.getElem?_eq_some_iff.1 h).1),h]
  · rw[List.getElem?_set_ne ha]
theorem take_upd {α:Type} (u:α→α) {L:List α} {k:Nat} {x:α} (hx:L[k]?=some x):((L.take k).map u++L.drop k).set k (u x)=(L.take (k+1)).map u++L.drop (k+1):=by
  have hk:=(List.getElem?_eq_some_iff.1 hx).1
  have h1:((L.take k).map u).length=k:=by rw[List.length_map,List.length_take];omega
  rw[List.set_append_right _ _ (by omega),h1,Nat.sub_self,List.take_add_one,hx,List.map_append,List.append_assoc,List.drop_eq_getElem_cons hk]
  rfl
theorem take_upd_get {α:Type} (u:α→α) {L:List α} {k:Nat} {x:α} (hx:L[k]?=some x):((L.take k).map u++L.drop k)[k]?=some x:=by
  have hk:=(List.getElem?_eq_some_iff.1 hx).1
  have h1:((L.take k).map u).length=k:=by rw[List.length_map,List.length_take];omega
  rw[List.getElem?_append_right (by omega),h1,Nat.sub_self,List.getElem?_drop,Nat.add_zero,hx]
theorem take_upd_len {α:Type} (u:α→α) {L:List α} {k:Nat} (hk:k≤L.length):((L.take k).map u++L.drop k).length=L.length:=by
  rw[List.length_append,List.length_map,List.length_take,List.length_drop];omega
theorem forL_upd {α ρ:Type} (u:α→α) (L:List α) {b:Nat→α→List α→Option (Ctl (List α) ρ)} (hb:∀ k x st,L[k]?=some x→st[k]?=some x→b k x st=some (.go (st.set k (u x)))):qK b L 0 L=some (.nx (L.map u)):=by
  have key:∀ (l:List α) (k:Nat),L.drop k=l→k≤L.length→qK b l k ((L.take k).map u++L.drop k)=some (.nx (L.map u)):=by
    intro l
    induction l with
    | nil=>
      intro k hd hk
      have:k=L.length:=by have:=List.drop_eq_nil_iff.1 hd;omega
      rw[forL_nil',this,List.take_length,List.drop_length,List.append_nil]
    | cons x l ih=>
      intro k hd hk
      have hk2:k<L.length:=by
        rcases Nat.lt_or_ge k L.length with h | h
        · exact h
        · rw[List.drop_eq_nil_of_le h] at hd;cases hd
      have hd':=hd;rw[List.drop_eq_getElem_cons hk2] at hd'
      injection hd' with e1 e2
      have hx:L[k]?=some x:=by rw[List.getElem?_eq_getElem hk2,e1]
      rw[forL_go (s':=(L.take (k+1)).map u++L.drop (k+1)) (by rw[hb k x _ hx (take_upd_get u hx),take_upd u hx]),ih (k+1) e2 (by omega)]
  exact key L 0 rfl (Nat.zero_le _)
theorem whl_upd {α ρ:Type} (u:α→α) (L:List α) (hL:L.length≤1000000) {b:Int×List α→Option (Ctl (Int×List α) ρ)} (hb:∀ (k:Nat) x st,L[k]?=some x→st[k]?=some x→st.length=L.length→b ((k:Int),st)=some (.go (((k+1:Nat):Int),st.set k (u x)))) (he:∀ st:List α,st.length=L.length→b ((L.length:Int),st)=some (.brk ((L.length:Int),st))) {N:Nat} (hN:L.length<N):whl b N (0,L)=some (.nx ((L.length:Int),L.map u)):=by
  have key:∀ (N k:Nat),L.length - k<N→k≤L.length→whl b N ((k:Int),(L.take k).map u++L.drop k)=some (.nx ((L.length:Int),L.map u)):=by
    intro N
    induction N with
    | zero=>intro k hk;omega
    | succ N ih=>
      intro k hN hk
      rcases Nat.lt_or_ge k L.length with hlt | hge
      · have hx:L[k]?=some L[k]:=List.getElem?_eq_getElem hlt
        rw[whl_go (s':=(((k+1:Nat):Int),(L.take (k+1)).map u++L.drop (k+1))) (by rw[hb k _ _ hx (take_upd_get u hx) (take_upd_len u (by omega)),take_upd u hx]),ih (k+1) (by omega) (by omega)]
      · obtain rfl:k=L.length:=by omega
        rw[whl_brk (he _ (take_upd_len u (Nat.le_refl _))),List.take_length,List.drop_length,List.append_nil]
  exact key N 0 (by omega) (Nat.zero_le _)
structure RowOk (V:Nat) (d:told):Prop where
  l:d.left.length=V+1
  b:Bit01 d.left
  v:0≤d.var∧d.var<(V:Int)
def Rows (V K:Nat) (s:List told) (s':List (List Int)×List Int):Prop:=s'=(s.map told.left,s.map told.var)∧(∀ d∈s,RowOk V d)∧s.length≤K
theorem set_len_bits {l:List Int} {i:Nat} {x:Int} {m:Nat} (h:l.length=m) (hb:Bit01 l) (hx:0≤x∧x≤1):(l.set i x).length=m∧Bit01 (l.set i x):=by
  refine⟨by rw[List.length_set];exact h,fun a ha=>?_⟩
  rcases List.mem_or_eq_of_mem_set ha with h | rfl
  · exact hb a h
  · exact hx
theorem ix01 {l:List Int} {m:Nat} (h:l.length=m) (hb:Bit01 l) {v:Int} (h0:0≤v) (h1:v<(m:Int)):∃ x,l[v.toNat]?=some x∧ix l v=some x∧0≤x∧x≤1:=by
  obtain⟨x,hx,h2⟩:=get01 hb (k:=v.toNat) (by omega);exact⟨x,hx,ix_of h0 hx,h2⟩
theorem Solve_two {N T:Nat} {t:Template} {y:Instance} (hu:TV T t) (h2:t.size=2) (hv:1≤y.vars∧y.vars≤10) (hn:y.cons.length≤24) (hC:∀ c∈y.cons,CV t y.vars c) (hN:2000≤N):kJ (impl_byEquations N t y) (spec_l09Solve N t y) (fun r r'=>r=r'∧r.1.length≤10):=by
  obtain⟨V,hV⟩:∃ V:Nat,y.vars=V:=⟨y.vars.toNat,by omega⟩
  have hT2:T=2:=by have:=hu.s;omega
  have hV1:1≤V∧V≤10:=by omega
  unfold impl_byEquations spec_l09Solve
  rw[hV];refine kJ.thn (fun s s'=>Rows V 744 s s') (fun r r'=>r=([],false)∧r'=([],false)) (kJ.mono (kJ.forL (fun k s s'=>Rows V (31*k) s s') (fun r r'=>r=([],false)∧r'=([],false)) ⟨rfl,(fun d hd=>nomatch hd),Nat.zero_le _⟩ (fun j c s s' hj hR=>?_)) (fun a a' h=>?_)) (fun s s' h=>?_) (fun r r' h=>by rw[h.1,h.2];exact⟨rfl,Nat.zero_le _⟩)
  ·
    have hc:=hC c (List.mem_of_getElem? hj);have hjl:=(List.getElem?_eq_some_iff.1 hj).1;obtain⟨hsc,r,r0,r1,r2,r3⟩:=hc;obtain⟨n,e,n1,n4,hasc,hm⟩:=hu.r r r2;have hlen:=(hu.r r r2).len hu.t
    have har:okS r.arity=true:=by unfold okS;simp;omega
    obtain⟨eqs,q1,q2,q3,q4⟩:=equations_eq r N (by omega) (by omega) har (fun w hw=>by
      obtain⟨w1,w2⟩:=enum_mem.1 (hm w hw)
      unfold areB
      rw[Bool.and_eq_true,List.all_eq_true];refine⟨by simp;omega,fun a ha=>?_⟩;have:=w2 a ha
      unfold okV
      simp
      omega)
    refine kJ.l (ix_of r0 r1) (kJ.r (ix_of r0 r1) (kJ.l q2 (kJ.r q1 ?_)));simp only[Nat.zero_add] at hR ⊢;refine kJ.thn (fun s s'=>Rows V (31*j+31) s s') (fun r r'=>r= .ret ([],false)∧r'= .ret ([],false)) (kJ.mono (kJ.forL (fun k s s'=>Rows V (31*j+k) s s') (fun r r'=>r= .ret ([],false)∧r'= .ret ([],false)) (by simpa using hR) (fun i q s s' hi hR=>?_)) (fun a a' h=>?_)) (fun s s' h=>?_) (fun r r' h=>by obtain⟨rfl,rfl⟩:=h;exact⟨rfl,rfl⟩)
    ·
      obtain⟨rfl,hok,hsl⟩:=hR;simp only[Nat.zero_add] at hsl ⊢;have hil:=(List.getElem?_eq_some_iff.1 hi).1;obtain⟨hql,hqb⟩:=q4 q (List.mem_of_getElem? hi);have hqb:Bit01 q:=hqb
      have hql':q.length=c.scope.length+1:=by omega
      have hz:mkz (0:Int) ((V:Int)+1)=some (List.replicate (V+1) 0):=by
        unfold mkz
        rw[if_pos ⟨by omega,by omega⟩]
        congr 2
      refine kJ.l (kH (by omega) (by omega)) (kJ.r (kH (by omega) (by omega)) (kJ.l hz (kJ.r hz ?_)));refine kJ.thn (fun s s'=>s=s'∧s.length=V+1∧Bit01 s) (fun _ _=>False) (kJ.mono (kJ.forL (fun k s s'=>s=s'∧s.length=V+1∧Bit01 s) (fun _ _=>False) ⟨rfl,List.length_replicate,fun a ha=>by rw[List.eq_of_mem_replicate ha];omega⟩ (fun p v s s' hp hR=>?_)) (fun a a' h=>h)) (fun own own' h=>?_) (fun r r' h=>h.elim)
      · obtain⟨rfl,hl,hb⟩:=hR
        have hpl:=(List.getElem?_eq_some_iff.1 hp).1;have hvv:=hsc v (List.mem_of_getElem? hp);obtain⟨x,_,hx,x0,x1⟩:=ix01 hl hb (v:=v) hvv.1 (by omega);obtain⟨z,hz,z0,z1⟩:=get01 hqb (k:=p) (by omega);have hz':=oV hz;rw[Nat.zero_add];simp only[hx,hz',bnd_s,kH (x:=x+z) (by omega) (by omega),rm2];exact kJ.s ⟨rfl,set_len_bits hl hb (tmod01 (by omega))⟩
      · obtain⟨rfl,hl,hb⟩:=h
        obtain⟨z,hz,z0,z1⟩:=get01 hqb (k:=c.scope.length) (by omega);obtain⟨x,_,hx,_⟩:=ix01 hl hb (v:=(V:Int)) (by omega) (by omega)
        have e1:ck ((q.length:Int) - 1)=some ((c.scope.length:Nat):Int):=by rw[kH (by omega) (by omega),show(q.length:Int) - 1=((c.scope.length:Nat):Int) by omega]
        refine kJ.l e1 (kJ.l (oV hz) (kJ.l hx (kJ.r (oV hz) (kJ.r hx ?_))));obtain⟨hl2,hb2⟩:=set_len_bits (i:=(V:Int).toNat) hl hb (x:=z) ⟨z0,z1⟩;generalize own.set (V:Int).toNat z=own2 at hl2 hb2 ⊢;rw[forL_map];refine kJ.thn (fun s s'=>s=s'∧s.length=V+1∧Bit01 s) (fun _ _=>False) (kJ.mono (kJ.forL (fun k s s'=>s=s'∧s.length=V+1∧Bit01 s) (fun _ _=>False) ⟨rfl,hl2,hb2⟩ (fun p d s1 s1' hp hR=>?_)) (fun a a' h=>h)) (fun w w' h=>?_) (fun r r' h=>h.elim)
        · obtain⟨rfl,hl,hb⟩:=hR
          have hd:=hok d (List.mem_of_getElem? hp);obtain⟨x,_,hx,x0,x1⟩:=ix01 hl hb (v:=d.var) hd.v.1 (by have:=hd.v.2;omega)
          have ht:ix (s.map told.var) ((0+p:Nat):Int)=some d.var:=by
            refine oV ?_;rw[Nat.zero_add,List.getElem?_map,hp]
            rfl
          have hdl:=hd.l;simp only[ht,hx,bnd_s,plus_eq (a:=s1) (b:=d.left) (by omega) (by omega) hb hd.b,l09Add_eq (N:=N) (a:=s1) (b:=d.left) (by omega) (by omega) (by omega) hb hd.b]
          by_cases h1:(x==1)=true
          · rw[if_pos h1,if_pos h1]
            exact kJ.s ⟨rfl,by rw[addS_len (by omega)];exact hl,addS_bits hb hd.b⟩
          · rw[if_neg h1,if_neg h1]
            exact kJ.s ⟨rfl,hl,hb⟩
        · obtain⟨rfl,hl,hb⟩:=h
          refine kJ.l (Index1_eq w) ?_;have hfl:=fst_loop (ρ:=(Ctl ((List (List Int))×(List Int)) (Ctl ((List (List Int))×(List Int)) ((List Int)×Bool)))) hl (by omega) hb rfl N 0 (by omega) (Nat.zero_le _);rw[show((0:Nat):Int)=0 from rfl] at hfl;rw[hfl,thn_nx];have hf:=fstI_spec (fun x=>1==x) w 0
          rcases hf with ⟨h1,h9⟩ | ⟨p,h1,h9,h3,x,h4,h5⟩
          · rw[h1]
            simp only;obtain⟨x,hx,x0,x1⟩:=get01 hb (k:=V) (by omega)
            have hx0:(x==1)=false:=by
              have hm:=List.mem_of_getElem? hx;rw[← h9,List.mem_filter] at hm;have:=hm.2;rw[beq_eq_false_iff_ne];intro h;rw[h] at this
              simp at this
            rw[if_pos (by decide),if_pos (by simp),oV hx,bnd_s,hx0,if_neg (by simp)];exact kJ.s ⟨rfl,hok,by omega⟩
          · rw[h9,Nat.zero_add]
            simp only
            have hx1:x=1:=by have:(1==x)=true:=h5;simp at this;omega
            subst hx1;rw[if_neg (by simp)]
            by_cases hpV:p=V
            · subst hpV
              rw[if_pos (by simp),if_pos (by simp),oV h4,bnd_s,if_pos (by rfl)];exact kJ.s ⟨rfl,rfl⟩
            · have hpn:((p:Int)==(V:Int))=false:=by rw[beq_eq_false_iff_ne];omega
              rw[hpn,if_neg (by simp),if_neg (by simp)]
              have hpV2:p<V:=by omega
              obtain⟨U,hU⟩:∃ U:List Int→List Int,U=fun l=>if l.getD p 0=1 then addS l w else l:=⟨_,rfl⟩
              have hUrow:∀ d∈s,RowOk V ({ d with left:=U d.left }):=fun d hd=>by
                have h:=hok d hd;refine⟨?_,?_,h.v⟩
                · show(U d.left).length=V+1
                  rw[hU]
                  show(if d.left.getD p 0=1 then addS d.left w else d.left).length=V+1
                  split
                  · rw[addS_len (by rw[h.l,hl]),h.l]
                  · exact h.l
                · show Bit01 (U d.left)
                  rw[hU]
                  show Bit01 (if d.left.getD p 0=1 then addS d.left w else d.left)
                  split
                  · exact addS_bits h.b hb
                  · exact h.b
              have hat:∀ d∈s,∃ z,ix d.left (p:Int)=some z∧d.left.getD p 0=z:=fun d hd=>by
                obtain⟨z,hz,_⟩:=get01 (hok d hd).b (k:=p) (by have:=(hok d hd).l;omega);exact⟨z,oV hz,by rw[List.getD_eq_getElem?_getD,hz];rfl⟩
              rw[forL_upd (fun d:told=>{ d with left:=U d.left }) s (fun k d st hk hst=>by
                have hd:=List.mem_of_getElem? hk;obtain⟨z,hz,hg⟩:=hat d hd;have h:=hok d hd;have hhl:=h.l;rw[oV hst,bnd_s,hz,bnd_s,plus_eq (by omega) (by omega) h.b hb,Int.toNat_natCast,hU]
                show _=some (Ctl.go (st.set k { d with left:=if d.left.getD p 0=1 then addS d.left w else d.left }))
                rw[hg]
                by_cases h1:z=1
                · rw[if_pos (by simpa using h1),if_pos h1,bnd_s]
                · rw[if_neg (by simpa using h1),if_neg h1]
                  show _=some (Ctl.go (st.set k d))
                  rw[set_same hst]),thn_nx]
              have hsl2:(s.map told.left).length=s.length:=List.length_map _
              rw[whl_upd U (s.map told.left) (by omega) (fun k l st hk hst hstl=>by
                rw[List.getElem?_map] at hk;obtain⟨d,hd,rfl⟩:=Option.map_eq_some_iff.1 hk;have hkl:=(List.getElem?_eq_some_iff.1 hd).1;have hd:=List.mem_of_getElem? hd;obtain⟨z,hz,hg⟩:=hat d hd;have h:=hok d hd;have hhl:=h.l;simp only;rw[if_pos (by simp;omega),oV hst,bnd_s,hz,bnd_s,l09Add_eq (by omega) (by omega) (by omega) h.b hb,Int.toNat_natCast,kH (by omega) (by omega),hU]
                show _=some (Ctl.go (((k+1:Nat):Int),st.set k (if d.left.getD p 0=1 then addS d.left w else d.left)))
                rw[hg]
                by_cases h1:z=1
                · rw[if_pos (by simpa using h1),if_pos h1,bnd_s,bnd_s];rfl
                · rw[if_neg (by simpa using h1),if_neg h1,bnd_s,set_same hst]
                  rfl) (fun st hst=>by
                simp only
                rw[if_neg (by simp;omega)]) (by omega),thn_nx]
              simp only;have a1:ap (s.map fun d:told=>{ d with left:=U d.left }) [told.mk w (p:Int)]=some ((s.map fun d:told=>{ d with left:=U d.left })++[told.mk w (p:Int)]):=ap_eq (by simp only[List.length_map,List.length_cons,List.length_nil];omega);have a2:ap ((s.map told.left).map U) [w]=some (((s.map told.left).map U)++[w]):=ap_eq (by simp only[List.length_map,List.length_cons,List.length_nil];omega);have a3:ap (s.map told.var) [(p:Int)]=some ((s.map told.var)++[(p:Int)]):=ap_eq (by simp only[List.length_map,List.length_cons,List.length_nil];omega);rw[a1,a2,a3,bnd_s,bnd_s,bnd_s];refine kJ.s ⟨?_,?_,?_⟩
              · rw[List.map_append,List.map_append,List.map_map,List.map_map,List.map_map]
                rfl
              · intro d hd
                rcases List.mem_append.1 hd with hd | hd
                · obtain⟨d',hd',rfl⟩:=List.mem_map.1 hd
                  exact hUrow d' hd'
                · rw[List.mem_singleton] at hd
                  subst hd;exact⟨hl,hb,by show(0:Int)≤p;omega,by show(p:Int)<V;omega⟩
              · rw[List.length_append,List.length_map,List.length_singleton]
                omega
    · cases a<;>cases a'<;>first | exact⟨h.1,h.2.1,by have:=h.2.2;omega⟩ | exact h
    · exact kJ.s ⟨h.1,h.2.1,by have:=h.2.2;omega⟩
  · cases a<;>cases a'<;>first | exact⟨h.1,h.2.1,by have:=h.2.2;omega⟩ | exact h
  ·
    obtain⟨rfl,hok,hsl⟩:=h
    have hz:mkz (0:Int) (V:Int)=some (List.replicate V 0):=by
      unfold mkz
      rw[if_pos ⟨by omega,by omega⟩,Int.toNat_natCast]
    refine kJ.l hz (kJ.r hz ?_);rw[forL_map];refine kJ.thn (fun s s'=>s=s'∧s.length=V) (fun _ _=>False) (kJ.mono (kJ.forL (fun k s s'=>s=s'∧s.length=V) (fun _ _=>False) ⟨rfl,List.length_replicate⟩ (fun p d s1 s1' hp hR=>?_)) (fun a a' h=>h)) (fun w w' h=>?_) (fun r r' h=>h.elim)
    · obtain⟨rfl,hl⟩:=hR
      have hd:=hok d (List.mem_of_getElem? hp)
      have ht:ix (s.map told.var) ((0+p:Nat):Int)=some d.var:=by
        refine oV ?_;rw[Nat.zero_add,List.getElem?_map,hp]
        rfl
      obtain⟨x,_,hx,_⟩:=ix01 hd.l hd.b (v:=(V:Int)) (by omega) (by omega);have hv2:=hd.v;have hw:ix s1 d.var=some (s1[d.var.toNat]'(by omega)):=ix_of hd.v.1 (List.getElem?_eq_getElem (by omega));simp only[ht,hx,hw,bnd_s];exact kJ.s ⟨rfl,by rw[List.length_set];exact hl⟩
    · exact kJ.s ⟨by rw[h.1],by show w.length≤10;omega⟩
end Go.Proofs.YticojbhjloeckaaGreat
namespace Go.Proofs.YticojbhjloeckaaGreat
set_option linter.unusedVariables false
set_option linter.unusedSimpArgs false
def hitB (t:List Int) (i j a b:Int) (k:Nat) (v:Int):Bool:=(v==i && t.getD k 0 != a) || (v==j && t.getD k 0 != b)
def hitsB (i j a b:Int) (t:List Int):List Int→Nat→Bool
  | [],_=>false
  | v::l,k=>hitB t i j a b k v || hitsB i j a b t l (k+1)
def tupB (c:Con) (i j a b:Int) (t:List Int):Bool:=!hitsB i j a b t c.scope 0 && agB c.scope t
theorem hit_eq {ρ : Type} {t : List Int} {i j a b v : Int} {k : Nat} (hk : k < t.length) : (if (v == i) then xX (ix t (k : Int)) fun z114 =>
      if (z114 != a) then some (Out.nx true) else if (v==j) then some (Out.nx (z114 != b)) else some (Out.nx (σ:=Bool) (ρ:=ρ) false) else if (v==j) then xX (ix t (k:Int)) fun z129=>
       some (.nx (z129 != b)) else some (.nx false))=some (.nx (hitB t i j a b k v)):=by
  rw[ix_getD hk,bnd_s,bnd_s]
  unfold hitB
  generalize t.getD k 0=x
  cases (v==i)<;>cases (v==j)<;>cases (x != a)<;>simp
theorem fnd_hits {i j a b:Int} {t:List Int}:∀ (l:List Int) (k:Nat),fnd (fun k v=>if hitB t i j a b k v then some false else none) l k=if hitsB i j a b t l k then some false else none
  | [],_=>rfl
  | v::l,k=>by
    unfold fnd hitsB
    cases h:hitB t i j a b k v
    · simp only[Bool.false_eq_true,if_false,Bool.false_or];exact fnd_hits l (k+1)
    · simp
theorem allows1_eq {c:Con} {i j a b:Int} {t:List Int} (h:t.length=c.scope.length):impl_Con_allows_1 t c i a j b=some (tupB c i j a b t):=by
  unfold impl_Con_allows_1
  rw[kR (fun k v=>if hitB t i j a b k v then some false else none) (fun p v hp=>by
    have hpl:=(List.getElem?_eq_some_iff.1 hp).1;rw[Nat.zero_add];simp only;rw[hit_eq (by omega),thn_nx]
    cases hitB t i j a b p v<;>rfl),fnd_hits]
  unfold tupB
  cases hitsB i j a b t c.scope 0
  · show xX _ _=_
    rw[agrees_eq c t h,bnd_s]
    simp
  · simp [outO]
theorem tells_loop {ρ : Type} {i j a b : Int} {t : List Int} : ∀ (l : List Int) (k : Nat) (s : Bool), k + l.length ≤ t.length → qK (σ := Bool) (ρ := ρ) (fun (k542 : Nat) (x544 : Int) (s540 : Bool) =>
       vO (σ:=Bool) (
        if (x544==i) then  xX (ix t (k542:Int)) fun z635=>
         if (z635 != a) then  some (.nx true) else  if (x544==j) then  some (.nx (z635 != b)) else  some (.nx false) else  if (x544==j) then  xX (ix t (k542:Int)) fun z676=>
          some (.nx (z676 != b)) else  some (.nx false)) fun s618=>
       if s618 then
        some (.go false)
       else
        some (.go s540)) l k s=some (.nx (s && !hitsB i j a b t l k))
  | [],k,s,_=>by simp [qK,hitsB]
  | v::l,k,s,h=>by
    rw[List.length_cons] at h
    rw[forL_go (s':=s && !hitB t i j a b k v) (by
      rw[hit_eq (by omega),thn_nx]
      cases hitB t i j a b k v<;>simp),tells_loop l (k+1) _ (by omega)]
    rw[show hitsB i j a b t (v::l) k=(hitB t i j a b k v || hitsB i j a b t l (k+1)) from rfl]
    cases s<;>cases hitB t i j a b k v<;>rfl
def allowB (u:Template) (i j a b:Int) (c:Con):Bool:=if !(c.scope.any (· == i)) && !(c.scope.any (· == j)) then true else (u.rels.getD c.rel.toNat default).tuples.any (tupB c i j a b)
theorem allows_two {T:Nat} {u:Template} {n:Int} {c:Con} (i j a b:Int) (hu:TV T u) (hc:CV u n c):impl_Con_allows c u i j a b=some (allowB u i j a b c)∧spec_l05Tells u c i j a b=some (allowB u i j a b c):=by
  obtain⟨hsc,r,r0,r1,r2,r3⟩:=hc;obtain⟨m,e,n1,n4,hasc,hm⟩:=hu.r r r2
  have hl:∀ t∈r.tuples,t.length=c.scope.length:=fun t ht=>by have:=(enum_mem.1 (hm t ht)).1;omega
  have hg:u.rels.getD c.rel.toNat default=r:=by rw[List.getD_eq_getElem?_getD,r1];rfl
  unfold impl_Con_allows spec_l05Tells allowB
  rw[hg,contains_eq,contains_eq,l00Has_eq,l00Has_eq];simp only[bnd_s]
  have e1:(vO (σ:=Bool) (ρ:=Bool) (if (!(c.scope.any (· == i))) then some (.nx (!(c.scope.any (· == j)))) else some (.nx false)))=fun k=>k (!(c.scope.any (· == i)) && !(c.scope.any (· == j))):=by
    funext k
    cases c.scope.any (· == i)<;>rfl
  rw[e1]
  cases (!(c.scope.any (· == i)) && !(c.scope.any (· == j))) with
  | true=>exact⟨rfl,rfl⟩
  | false=>
    simp only[if_neg (show ¬ (false=true) by simp),ix_of r0 r1,bnd_s]
    constructor
    · rw[containsL_eq _ (tupB c i j a b) _ (fun t ht=>allows1_eq (c:=c) (hl t ht)),bnd_s]
    · rw[kR (fun _ t=>if tupB c i j a b t then some true else none) (fun p t hp=>by
        have ht:=hl t (List.mem_of_getElem? hp);rw[whole_eq c t ht,bnd_s,tells_loop c.scope 0 _ (by omega),thn_nx]
        unfold tupB
        cases agB c.scope t<;>cases hitsB i j a b t c.scope 0<;>rfl),fnd_any]
      cases r.tuples.any (tupB c i j a b)<;>rfl
def pairW (u:Template) (y:Instance) (i j:Int) (d:List Int):Bool:=y.cons.all (allowB u i j (d.getD 0 0) (d.getD 1 0))
def pairR (u:Template) (y:Instance) (i j:Int):Rel:=⟨2,(enumL 2 2).filter (pairW u y i j)⟩
theorem relPair_eq {N:Nat} {u:Template} {y:Instance} (hu:TV 2 u) (hC:∀ c∈y.cons,CV u y.vars c) (hN:10≤N) (i j:Int):impl_relOf N u.size 2 (fun a0=>impl_firstPairs_1 a0 (Instance.mk y.vars y.cons) (Template.mk u.size u.rels) i j)=some (pairR u y i j):=by
  have h:=relOf_eq (N:=N) (T:=2) (n:=2) (by omega) (by omega) hN (is:=fun a0=>impl_firstPairs_1 a0 (Instance.mk y.vars y.cons) (Template.mk u.size u.rels) i j) (pairW u y i j) (fun d hd=>by
    have hl:=(enum_mem.1 hd).1
    unfold impl_firstPairs_1
    rw[containsC_eq y.cons (fun c=>!allowB u i j (d.getD 0 0) (d.getD 1 0) c) _ (fun c hc=>by
      unfold impl_firstPairs_1_1
      have h0:ix d 0=some (d.getD 0 0):=ix_getD (k:=0) (by omega);have h1:ix d 1=some (d.getD 1 0):=ix_getD (k:=1) (by omega);rw[h0,h1,bnd_s,bnd_s];have h2:impl_Con_allows (Con.mk c.rel c.scope) (Template.mk u.size u.rels) i j (d.getD 0 0) (d.getD 1 0)=some (allowB u i j (d.getD 0 0) (d.getD 1 0) c):=(allows_two i j _ _ hu (hC c hc)).1
      rw[h2,bnd_s]),bnd_s,← List.not_all_eq_any_not,Bool.not_not]
    rfl)
  rw[hu.s];exact h
theorem four_at:∀ k:Nat,k<4→(enumL 2 2)[k]?=some [(k:Int).tdiv 2,(k:Int).tmod 2]:=by decide
theorem four_dv:∀ k:Nat,k<4→dv (k:Int) 2=some ((k:Int).tdiv 2):=by decide
theorem first_whl {N:Nat} {u:Template} {y:Instance} {ρ:Type} (hu:TV 2 u) (hy:y.cons.length≤24) (hC:∀ c∈y.cons,CV u y.vars c) (hN:100≤N) (i j:Int):∀ (M k:Nat) (s:List (List Int)),4 - k<M→k≤4→s.length≤k →
    whl (σ:=Int×(List (List Int))) (ρ:=ρ) (fun(s:Int×(List (List Int)))=>
        match s with
        | (s1438,s1440)=>
        xX (ck (u.size*u.size)) fun z1460=>
        if (decide (s1438<z1460)) then
         xX (dv s1438 u.size) fun z1466=>
         xX (rm s1438 u.size) fun z1471=>
         vO (σ:=Bool×Int) (
          whl (σ:=Bool×Int) (ρ:=(Ctl (Int×(List (List Int))) ρ)) (fun(s:Bool×Int)=>
            match s with
            | (s1511,s1512)=>
            vO (σ:=Bool) (
             if (decide (s1512<(y.cons.length:Int))) then  some (.nx s1511) else  some (.nx false)) fun s1532=>
            if s1532 then
             xX (ix y.cons s1512) fun z1544=>
             xX (spec_l05Tells u z1544 i j z1466 z1471) fun z1548=>
             xX (ck (s1512+1)) fun z1550=>
             some (.go (z1548,z1550))
            else
             some (.brk (s1511,s1512))) N (true,0)) fun(s1514,s1515)=>
         if s1514 then
          xX (ap s1440 ([[z1466,z1471]])) fun z1557=>
          xX (ck (s1438+1)) fun z1561=>
          some (.go (z1561,z1557))
         else
          xX (ck (s1438+1)) fun z1563=>
          some (.go (z1563,s1440))
        else
         some (.brk (s1438,s1440))) M ((k:Int),s)=some (.nx (4,s++((enumL 2 2).drop k).filter (pairW u y i j))):=by
  intro M
  induction M with
  | zero=>intro k s h;omega
  | succ M ih=>
    intro k s hM hk hs;have hsz:u.size=2:=hu.s;have h4:ck ((2:Int)*2)=some 4:=rfl
    rcases Nat.lt_or_ge k 4 with hlt | hge
    · have hat:=four_at k hlt
      have hd:(enumL 2 2).drop k=[(k:Int).tdiv 2,(k:Int).tmod 2]::(enumL 2 2).drop (k+1):=by
        have hl:k<(enumL 2 2).length:=by show k<4;exact hlt
        rw[List.drop_eq_getElem_cons hl];rw[List.getElem?_eq_getElem hl] at hat;rw[Option.some.inj hat]
      have h5:dv (k:Int) 2=some ((k:Int).tdiv 2):=four_dv k hlt;have hst:∃ b:Bool,b=pairW u y i j [(k:Int).tdiv 2,(k:Int).tmod 2]:=⟨_,rfl⟩;obtain⟨b,hb⟩:=hst
      obtain ⟨e, he⟩ := whl_all y.cons (allowB u i j ((k : Int).tdiv 2) ((k : Int).tmod 2)) (ρ := (Ctl (Int × (List (List Int))) ρ)) (b := fun (s : Bool × Int) =>
            match s with
            | (s1511,s1512)=>
            vO (σ:=Bool) (
             if (decide (s1512<(y.cons.length:Int))) then  some (.nx s1511) else  some (.nx false)) fun s1532=>
            if s1532 then
             xX (ix y.cons s1512) fun z1544=>
             xX (spec_l05Tells u z1544 i j ((k:Int).tdiv 2) ((k:Int).tmod 2)) fun z1548=>
             xX (ck (s1512+1)) fun z1550=>
             some (.go (z1548,z1550))
            else
             some (.brk (s1511,s1512))) (fun q c hq=>by
          have hql:=(List.getElem?_eq_some_iff.1 hq).1;simp only;rw[if_pos (by simp;omega),thn_nx,if_pos rfl,oV hq,bnd_s,(allows_two i j _ _ hu (hC c (List.mem_of_getElem? hq))).2,bnd_s,kH (by omega) (by omega),bnd_s]
          rfl) (fun f q hfq=>by
          by_cases hl:((q:Int)<(y.cons.length:Int))
          · have hf:f=false:=by
              rcases hfq with h | h
              · exact h
              · omega
            subst hf
            simp [hl]
          · simp [hl]) y.cons 0 N rfl (by omega)
      have hbb:y.cons.all (allowB u i j ((k:Int).tdiv 2) ((k:Int).tmod 2))=b:=by rw[hb];rfl
      rw[hbb,show(((0:Nat)):Int)=0 from rfl] at he;rw[hd,List.filter_cons,← hb]
      cases hbv:b with
      | true=>
        rw[hbv] at he
        rw[whl_go (s':=(((k+1:Nat):Int),s++[[(k:Int).tdiv 2,(k:Int).tmod 2]])) (by
          simp only[hsz,h4,bnd_s,h5,rm2];rw[if_pos (by simp;omega),he,thn_nx,if_pos rfl,ap_eq (by simp only[List.length_cons,List.length_nil];omega),bnd_s,kH (by omega) (by omega),bnd_s]
          rfl),ih (k+1) _ (by omega) (by omega) (by
            rw[List.length_append,List.length_singleton];omega),if_pos rfl,List.append_assoc]
        rfl
      | false=>
        rw[hbv] at he
        rw[whl_go (s':=(((k+1:Nat):Int),s)) (by
          simp only[hsz,h4,bnd_s,h5,rm2];rw[if_pos (by simp;omega),he,thn_nx,if_neg (by simp),kH (by omega) (by omega),bnd_s]
          rfl),ih (k+1) _ (by omega) (by omega) (by omega),if_neg (by simp)]
    · obtain rfl:k=4:=by omega
      rw[whl_brk (s':=(4,s)) (by
        simp only[hsz,h4,bnd_s]
        rfl)]
      have:(enumL 2 2).drop 4=[]:=rfl;rw[this,List.filter_nil,List.append_nil]
end Go.Proofs.YticojbhjloeckaaGreat
namespace Go.Proofs.YticojbhjloeckaaGreat
set_option linter.unusedVariables false
set_option linter.unusedSimpArgs false
theorem kJ.forI {σ σ' ρ ρ':Type} {f:Nat→σ→Option (Ctl σ ρ)} {g:Nat→σ'→Option (Ctl σ' ρ')} (d:Nat) (R:Nat→σ→σ'→Prop) (Q:ρ→ρ'→Prop):∀ {m k:Nat} {s:σ} {s':σ'},R k s s' →
    (∀ j s s',k≤j→j<k+m→R j s s'→kJ (f (j+d) s) (g j s') (CtlR (R (j+1)) (fun _ _=>False) Q))→kJ (Go.Proofs.YticojbhjloeckaaGreat.vQ f m (k+d) s) (Go.Proofs.YticojbhjloeckaaGreat.vQ g m k s') (OutR (R (k+m)) Q)
  | 0,k,s,s',h,_=>kJ.s h
  | m+1,k,s,s',h,hh=>by
    obtain⟨a,b,h1,h2,h3⟩:=hh k s s' (Nat.le_refl _) (by omega) h
    cases a with
    | go t=>cases b with
      | go t'=>
        rw[forI_go h1,forI_go h2];have:=kJ.forI d R Q (m:=m) (k:=k+1) (s:=t) (s':=t') h3 (fun j s s' h1 h2 h3=>hh j s s' (by omega) (by omega) h3);rw[Nat.add_right_comm,show k+(m+1)=k+1+m by omega];exact this
      | brk _=>exact h3.elim
      | ret _=>exact h3.elim
    | brk _=>cases b<;>exact h3.elim
    | ret r=>cases b with
      | ret r'=>rw[forI_rt h1,forI_rt h2];exact kJ.s h3
      | go _=>exact h3.elim
      | brk _=>exact h3.elim
def tri:Nat→Nat
  | 0=>0
  | n+1=>tri n+n
theorem tri_lt {i j V:Nat} (h:i<j) (hj:j<V):tri j+i<tri V:=by
  induction V with
  | zero=>omega
  | succ V ih=>
    show tri j+i<tri V+V
    rcases Nat.lt_or_ge j V with h1 | h1
    · have:=ih h1;omega
    · obtain rfl:j=V:=by omega
      omega
theorem tri_le {V:Nat} (h:V≤10):tri V≤45:=by
  have:∀ V:Nat,V<11→tri V≤45:=by decide
  exact this V (by omega)
theorem tri_dv:∀ j:Nat,j<11→ck ((j:Int) - 1)=some ((j:Int) - 1)∧ck ((j:Int)*((j:Int) - 1))=some ((j:Int)*((j:Int) - 1))∧dv ((j:Int)*((j:Int) - 1)) 2=some (tri j:Int):=by decide
structure RelOk (r:Rel):Prop where
  ar:r.arity=2
  asc:Asc r.tuples
  m:∀ t∈r.tuples,t∈enumL 2 2
structure PairsOk (V:Nat) (L:List Rel):Prop where
  len:L.length=tri V
  r:∀ r∈L,RelOk r
theorem pairR_ok (u:Template) (y:Instance) (i j:Int):RelOk (pairR u y i j):=⟨rfl,(enum_asc 2 2).filter _,fun t ht=>(List.mem_filter.1 ht).1⟩
theorem First_two {N V:Nat} {u:Template} {y:Instance} (hu:TV 2 u) (hy:y.cons.length≤24) (hC:∀ c∈y.cons,CV u y.vars c) (hV:y.vars=V) (hV1:1≤V∧V≤10) (hN:100≤N):kJ (impl_firstPairs N u y) (spec_l05First N u y) (fun L L'=>L=L'∧PairsOk V L):=by
  obtain⟨m,rfl⟩:∃ m,V=m+1:=⟨V - 1,by omega⟩
  unfold impl_firstPairs spec_l05First
  rw[hV,show(((m+1:Nat):Int)).toNat=m+1 by omega,show(((m+1:Nat):Int) - 1).toNat=m by omega];have hb:=tri_le (V:=m+1) (by omega);rw[forI_go (s':=[]) (k:=0) rfl];refine kJ.thn (fun s s'=>s=s'∧s.length=tri (m+1)∧∀ r∈s,RelOk r) (fun _ _=>False) (kJ.mono (kJ.forI 1 (fun k s s'=>s=s'∧s.length=tri (k+1)∧∀ r∈s,RelOk r) (fun _ _=>False) (k:=0) ⟨rfl,rfl,(fun r hr=>nomatch hr)⟩ (fun j s s' hj0 hj hR=>?_)) (fun a a' h=>?_)) (fun a a' h=>kJ.s ⟨h.1,h.2.1,h.2.2⟩) (fun _ _ h=>h.elim)
  · obtain⟨rfl,hl,hr⟩:=hR
    have hj1:(1:Int)+(j:Int)=((j+1:Nat):Int):=by omega
    have htl:∀ i,i<j+1→tri (j+1)+i<45:=fun i hi=>by
      have:=tri_lt (i:=i) (j:=j+1) (V:=m+1) hi (by omega)
      omega
    simp only[hj1];rw[show(((j+1:Nat):Int)).toNat=j+1 by omega];refine kJ.thn (fun s s'=>s=s'∧s.length=tri (j+2)∧∀ r∈s,RelOk r) (fun _ _=>False) (kJ.mono (kJ.forI 0 (fun k s s'=>s=s'∧s.length=tri (j+1)+k∧∀ r∈s,RelOk r) (fun _ _=>False) (k:=0) ⟨rfl,hl,hr⟩ (fun i s s' hi0 hi hR=>?_)) (fun a a' h=>?_)) (fun a a' h=>kJ.s ⟨h.1,h.2.1,h.2.2⟩) (fun _ _ h=>h.elim)
    · obtain⟨rfl,hl,hr⟩:=hR
      have h9:=htl i (by omega);simp only[Nat.add_zero]
      have e1:impl_relOf N u.size 2 (fun a0=>impl_firstPairs_1 a0 (Instance.mk ((m+1:Nat):Int) y.cons) (Template.mk u.size u.rels) (i:Int) ((j+1:Nat):Int))=some (pairR u y i ((j+1:Nat):Int)):=by
        have:=relPair_eq hu hC (N:=N) (by omega) (i:Int) ((j+1:Nat):Int);rw[hV] at this;exact this
      have hw:=first_whl (N:=N) (y:=y) (ρ:=(Ctl ((List Rel)) (Ctl ((List Rel)) (List Rel)))) hu hy hC hN (i:Int) ((j+1:Nat):Int) N 0 [] (by omega) (by omega) (by simp);rw[show((0:Nat):Int)=0 from rfl,List.drop_zero,List.nil_append] at hw;rw[e1,bnd_s,hw,thn_nx];simp only;have e2:(Rel.mk (pairR u y i ((j+1:Nat):Int)).arity (pairR u y i ((j+1:Nat):Int)).tuples)=pairR u y i ((j+1:Nat):Int):=rfl;have e3:(Rel.mk 2 ((enumL 2 2).filter (pairW u y i ((j+1:Nat):Int))))=pairR u y i ((j+1:Nat):Int):=rfl;rw[e2,e3,ap_eq (by simp only[List.length_cons,List.length_nil];omega),bnd_s];refine kJ.s ⟨rfl,by rw[List.length_append,List.length_singleton];omega,fun r h=>?_⟩
      rcases List.mem_append.1 h with h | h
      · exact hr r h
      · rw[List.mem_singleton] at h;subst h;exact pairR_ok _ _ _ _
    · rw[Nat.zero_add] at h
      exact h
  · rw[Nat.zero_add] at h
    exact h
def prel (L:List Rel) (i j:Nat):List (List Int):=(L.getD (tri j+i) default).tuples
def lfB (L:List Rel) (p q:Nat) (a b:Int):Bool:=if q<p then decide ([b,a]∈prel L q p) else decide ([a,b]∈prel L p q)
theorem PairsOk.at {V:Nat} {L:List Rel} (h:PairsOk V L) {i j:Nat} (hi:i<j) (hj:j<V):L[tri j+i]?=some (L.getD (tri j+i) default)∧RelOk (L.getD (tri j+i) default):=by
  have h1:=tri_lt hi hj
  have h2:L[tri j+i]?=some (L.getD (tri j+i) default):=by rw[List.getD_eq_getElem?_getD,List.getElem?_eq_getElem (by rw[h.len];exact h1)];rfl
  exact⟨h2,h.r _ (List.mem_of_getElem? h2)⟩
theorem RelOk.four {r:Rel} (h:RelOk r):r.tuples.length≤4:=by
  rw[rel_enum h.asc h.m];exact Nat.le_trans (List.length_filter_le _ _) (by decide)
theorem pairIndex_eq {i j:Nat} (hi:i<j) (hj:j<10):impl_pairIndex (i:Int) (j:Int)=some ((tri j+i:Nat):Int)∧spec_l05Index (i:Int) (j:Int)=some ((tri j+i:Nat):Int):=by
  obtain⟨h1,h2,h3⟩:=tri_dv j (by omega);have h4:=tri_lt hi hj;have h5:=tri_le (V:=10) (by omega)
  have h6:ck ((tri j:Int)+(i:Int))=some ((tri j+i:Nat):Int):=by rw[kH (by omega) (by omega)];push_cast;rfl
  unfold impl_pairIndex spec_l05Index
  simp only[if_pos (show(i:Int)<(j:Int) by omega),if_neg (show ¬ (j:Int)<(i:Int) by omega),h1,h2,h3,h6,bnd_s];exact⟨trivial,trivial⟩
theorem isLeft_two {N V:Nat} {L:List Rel} (h:PairsOk V L) (hV:V≤10) {p q:Nat} (hp:p<V) (hq:q<V) (hne:p≠q) (a b:Int) (hN:1100≤N):impl_isLeft N L (p:Int) (q:Int) a b=some (lfB L p q a b)∧kF L (p:Int) (q:Int) a b=some (lfB L p q a b):=by
  unfold impl_isLeft kF lfB
  rcases Nat.lt_or_ge q p with hlt | hge
  · obtain⟨h1,h2⟩:=h.at hlt hp
    obtain⟨e1,e2⟩:=pairIndex_eq hlt (by omega)
    have hd:decide ((q:Int)<(p:Int))=true:=by simp;omega
    rw[if_pos hlt,hd];simp only[if_true,thn_nx,e1,e2,bnd_s,oV h1,l01Has_eq,has_eq (t:=[b,a]) h2.asc (by have:=h2.four;omega) (by omega:1002≤N)];exact⟨rfl,rfl⟩
  · obtain⟨h1,h2⟩:=h.at (show p<q by omega) hq
    obtain⟨e1,e2⟩:=pairIndex_eq (show p<q by omega) (by omega)
    have hd:decide ((q:Int)<(p:Int))=false:=by simp;omega
    rw[if_neg (show ¬ q<p by omega),hd];simp only[Bool.false_eq_true,if_false,thn_nx,e1,e2,bnd_s,oV h1,l01Has_eq,has_eq (t:=[a,b]) h2.asc (by have:=h2.four;omega) (by omega:1002≤N)];exact⟨rfl,rfl⟩
def totR (L:List Rel):Nat:=(L.map fun r=>r.tuples.length).sum
theorem totR_set:∀ (L:List Rel) (i:Nat) (d w:Rel),L[i]?=some d→totR (L.set i w)+d.tuples.length=totR L+w.tuples.length
  | [],i,d,w,h=>by simp at h
  | x::r,0,d,w,h=>by
    simp at h;subst h
    simp [totR];omega
  | x::r,i+1,d,w,h=>by
    have:=totR_set r i d w (by simpa using h)
    simp [totR] at this ⊢
    omega
theorem totR_le:∀ (L:List Rel),(∀ r∈L,RelOk r)→totR L≤4*L.length
  | [],_=>by simp [totR]
  | x::r,h=>by
    have h1:=totR_le r (fun y hy=>h y (by simp [hy]));have h2:=(h x (by simp)).four
    simp [totR] at h1 ⊢
    omega
theorem whl_any {α ρ:Type} (L:List α) (p:α→Bool) {b:Bool×Int→Option (Ctl (Bool×Int) ρ)}
    (h1:∀ (i:Nat) t,L[i]?=some t→b (false,(i:Int))=some (.go (p t,((i+1:Nat):Int))))
    (h2:∀ (f:Bool) (i:Nat),(f=true∨L.length≤i)→b (f,(i:Int))=some (.brk (f,(i:Int)))) :
    ∀ (r:List α) (i N:Nat),L.drop i=r→r.length+2≤N→∃ j:Nat,whl b N (false,(i:Int))=some (.nx (r.any p,(j:Int)))
  | [],i,N,hr,hN=>by
    obtain⟨M,rfl⟩:∃ M,N=M+1:=⟨N - 1,by omega⟩;have hl:=congrArg List.length hr;rw[List.length_drop] at hl;exact⟨i,whl_brk (h2 false i (.inr (by simp at hl;omega)))⟩
  | t::r,i,N,hr,hN=>by
    obtain⟨M,rfl⟩:∃ M,N=M+2:=⟨N - 2,by simp at hN;omega⟩
    have hi:i<L.length:=by
      rcases Nat.lt_or_ge i L.length with h | h
      · exact h
      · rw[List.drop_eq_nil_of_le h] at hr;cases hr
    rw[List.drop_eq_getElem_cons hi] at hr
    injection hr with e1 e2
    have ht:L[i]?=some t:=by rw[List.getElem?_eq_getElem hi,e1]
    rw[show M+2=(M+1)+1 from rfl,whl_go (h1 i t ht),List.any_cons]
    cases hp:p t with
    | true=>exact⟨i+1,whl_brk (h2 true (i+1) (.inl rfl))⟩
    | false=>rw[Bool.false_or];exact whl_any L p h1 h2 r (i+1) (M+1) e2 (by simp at hN;omega)
def supB (L:List Rel) (i j k:Nat) (d:List Int):Bool:=(List.range' 0 2).any fun v=>lfB L i k (d.getD 0 0) (v:Int) && lfB L k j (v:Int) (d.getD 1 0)
def Cons3 (L:List Rel) (i j k:Nat):Prop:=∀ d∈prel L i j,supB L i j k d=true
theorem through_loop {N V:Nat} {L:List Rel} {i j k:Nat} {ρ:Type} (h:PairsOk V L) (hV:V≤10) (hi:i<j) (hj:j<V) (hk:k<V) (hki:k≠i) (hkj:k≠j) (hN:1100≤N):∀ (l:List (List Int)) (p:Nat) (s:List (List Int)),(∀ d∈l,d.length=2)→s.length+l.length≤1000 →
    qK (σ:=(List (List Int))) (ρ:=ρ) (fun(k490:Nat) (x492:(List Int)) (s484:(List (List Int)))=>
   vO (σ:=Bool×Int) (
    whl (σ:=Bool×Int) (ρ:=(Ctl ((List (List Int))) ρ)) (fun(s:Bool×Int)=>
      match s with
      | (s585,s586)=>
      vO (σ:=Bool) (
       if (decide (s586<2)) then  some (.nx (!s585)) else  some (.nx false)) fun s601=>
      if s601 then
       vO (σ:=Bool) (
        xX (ix x492 0) fun z647=>
        xX (kF L (i:Int) (k:Int) z647 s586) fun z652=>
        if z652 then  xX (ix x492 1) fun z663=>
         xX (kF L (k:Int) (j:Int) s586 z663) fun z668=>
         some (.nx z668) else  some (.nx false)) fun s638=>
       xX (ck (s586+1)) fun z670=>
       some (.go (s638,z670))
      else
       some (.brk (s585,s586))) N (false,0)) fun(s588,s589)=>
   if s588 then
    xX (ap s484 ([x492])) fun z683=>
    some (.go z683)
   else
    some (.go s484)) l p s=some (.nx (s++l.filter (supB L i j k)))
  | [],p,s,_,_=>by simp [qK]
  | d::l,p,s,hd,hs=>by
    rw[List.length_cons] at hs;have hd2:=hd d (by simp);have h0:ix d 0=some (d.getD 0 0):=ix_getD (k:=0) (by omega);have h1:ix d 1=some (d.getD 1 0):=ix_getD (k:=1) (by omega)
    obtain⟨e,he⟩:=whl_any (List.range' 0 2) (fun v=>lfB L i k (d.getD 0 0) (v:Int) && lfB L k j (v:Int) (d.getD 1 0)) (ρ:=(Ctl ((List (List Int))) ρ)) (b:=fun(s:Bool×Int)=>
      match s with
      | (s585,s586)=>
      vO (σ:=Bool) (
       if (decide (s586<2)) then  some (.nx (!s585)) else  some (.nx false)) fun s601=>
      if s601 then
       vO (σ:=Bool) (
        xX (ix d 0) fun z647=>
        xX (kF L (i:Int) (k:Int) z647 s586) fun z652=>
        if z652 then  xX (ix d 1) fun z663=>
         xX (kF L (k:Int) (j:Int) s586 z663) fun z668=>
         some (.nx z668) else  some (.nx false)) fun s638=>
       xX (ck (s586+1)) fun z670=>
       some (.go (s638,z670))
      else
       some (.brk (s585,s586))) (fun q t hq=>by
        have hql:=(List.getElem?_eq_some_iff.1 hq).1;rw[List.length_range'] at hql
        have ht:t=q:=by
          rw[List.getElem?_range' (by omega)] at hq;have:=Option.some.inj hq
          omega
        subst ht;have l1:=(isLeft_two h hV (show i<V by omega) hk (fun h=>hki h.symm) (d.getD 0 0) (t:Int) hN).2;have l2:=(isLeft_two h hV hk hj hkj (t:Int) (d.getD 1 0) hN).2;simp only;rw[if_pos (by simp;omega),thn_nx];simp only[Bool.not_false,if_true,h0,h1,bnd_s,l1,l2,kH (x:=(t:Int)+1) (by omega) (by omega)]
        cases lfB L i k (d.getD 0 0) (t:Int)<;>rfl) (fun f q hfq=>by
        rw[List.length_range'] at hfq
        by_cases hl:((q:Int)<2)
        · have hf:f=true:=by
            rcases hfq with h | h
            · exact h
            · omega
          subst hf
          simp [hl]
        · simp [hl]) (List.range' 0 2) 0 N rfl (by rw[List.length_range'];omega)
    rw[show(((0:Nat)):Int)=0 from rfl] at he;have ih:=fun s' hs'=>through_loop (ρ:=ρ) h hV hi hj hk hki hkj hN l (p+1) s' (fun d hd'=>hd d (by simp [hd'])) hs';rw[List.filter_cons];have hsb:(List.range' 0 2).any (fun v=>lfB L i k (d.getD 0 0) (v:Int) && lfB L k j (v:Int) (d.getD 1 0))=supB L i j k d:=rfl;rw[hsb] at he
    cases hb:supB L i j k d with
    | true=>
      rw[hb] at he;rw[forL_go (s':=s++[d]) (by rw[he,thn_nx];simp only[if_true];rw[ap_eq (by simp only[List.length_cons,List.length_nil];omega),bnd_s]),ih _ (by rw[List.length_append,List.length_singleton];omega),if_pos rfl,List.append_assoc]
      rfl
    | false=>
      rw[hb] at he;rw[forL_go (s':=s) (by rw[he,thn_nx];rfl),ih _ (by omega),if_neg (by simp)]
theorem narrow_two {N V:Nat} {L:List Rel} {i j k:Nat} (h:PairsOk V L) (hV:V≤10) (hi:i<j) (hj:j<V) (hk:k<V) (hki:k≠i) (hkj:k≠j) (hN:1100≤N) :
    ∃ ch L',impl_narrow N 2 L (PairStep.mk (i:Int) (j:Int) (k:Int))=some (ch,L')∧spec_l05Through N 2 L (i:Int) (j:Int) (k:Int)=some (ch,L')∧PairsOk V L'∧(ch=false→L'=L∧Cons3 L i j k)∧(ch=true→totR L'<totR L):=by
  obtain⟨h1,h2⟩:=h.at hi hj;obtain⟨e1,e2⟩:=pairIndex_eq hi (show j<10 by omega);have h4:=h2.four;obtain⟨r,hr⟩:∃ r,r=L.getD (tri j+i) default:=⟨_,rfl⟩
  have hp:prel L i j=r.tuples:=by rw[hr];rfl
  rw[← hr] at h1 h2 h4;obtain⟨F,hF⟩:∃ F,F=r.tuples.filter (supB L i j k):=⟨_,rfl⟩
  have hW:(enumL 2 2).filter (fun d=>supB L i j k d && decide (d∈r.tuples))=F:=by
    rw[← List.filter_filter,← rel_enum h2.asc h2.m,hF]
  have hFl:F.length≤r.tuples.length:=by rw[hF];exact List.length_filter_le _ _
  have eI:impl_relOf N 2 2 (fun a0=>impl_narrow_1 N a0 L ((tri j+i:Nat):Int) 2 (PairStep.mk (i:Int) (j:Int) (k:Int)))=some ⟨2,F⟩:=by
    have:=relOf_eq (N:=N) (T:=2) (n:=2) (by omega) (by omega) (by omega) (is:=fun a0=>impl_narrow_1 N a0 L ((tri j+i:Nat):Int) 2 (PairStep.mk (i:Int) (j:Int) (k:Int))) (fun d=>supB L i j k d && decide (d∈r.tuples)) (fun d hd=>by
      have hl:=(enum_mem.1 hd).1
      unfold impl_narrow_1
      rw[oV h1,bnd_s,has_eq h2.asc (by omega) (by omega),bnd_s]
      cases hm:decide (d∈r.tuples) with
      | false=>simp
      | true=>
        rw[if_neg (by simp)];have h0:ix d 0=some (d.getD 0 0):=ix_getD (k:=0) (by omega);have h9:ix d 1=some (d.getD 1 0):=ix_getD (k:=1) (by omega);rw[show((2:Int)).toNat=2 from rfl]
        rw[forI_any (fun v=>lfB L i k (d.getD 0 0) (v:Int) && lfB L k j (v:Int) (d.getD 1 0)) true 2 0 (fun v hv0 hv=>by
          have l1:=(isLeft_two h hV (show i<V by omega) hk (fun h=>hki h.symm) (d.getD 0 0) (v:Int) hN).1;have l2:=(isLeft_two h hV hk hj hkj (v:Int) (d.getD 1 0) hN).1;simp only[h0,h9,bnd_s,l1,l2]
          cases lfB L i k (d.getD 0 0) (v:Int)<;>cases lfB L k j (v:Int) (d.getD 1 0)<;>rfl)]
        show vO (some (if supB L i j k d then _ else _)) _=_
        cases supB L i j k d<;>rfl)
    rw[hW] at this;exact this
  have hps:PairsOk V (L.set (tri j+i) ⟨2,F⟩):=⟨by rw[List.length_set];exact h.len,fun q hq=>by
    rcases List.mem_or_eq_of_mem_set hq with hq | rfl
    · exact h.r q hq
    · exact⟨rfl,by rw[hF];exact h2.asc.filter _,fun t ht=>by rw[hF] at ht;exact h2.m t (List.mem_filter.1 ht).1⟩⟩
  have hset:=totR_set L (tri j+i) r ⟨2,F⟩ h1
  have eS:spec_l05Through N 2 L (i:Int) (j:Int) (k:Int)=some (decide ((F.length:Int)<(r.tuples.length:Int)),L.set (tri j+i) ⟨2,F⟩):=by
    unfold spec_l05Through
    rw[e2,bnd_s,oV h1,bnd_s,through_loop h hV hi hj hk hki hkj hN r.tuples 0 [] (fun d hd=>(enum_mem.1 (h2.m d hd)).1) (by simp only[List.length_nil];omega),thn_nx,List.nil_append,← hF,Int.toNat_natCast]
  have eI2:impl_narrow N 2 L (PairStep.mk (i:Int) (j:Int) (k:Int))=if ((F.length:Int)==(r.tuples.length:Int)) then some (false,L) else some (true,L.set (tri j+i) ⟨2,F⟩):=by
    unfold impl_narrow
    simp only[e1,bnd_s];rw[eI,bnd_s,oV h1,bnd_s,Int.toNat_natCast]
  by_cases hl:F.length=r.tuples.length
  · have hFr:F=r.tuples:=by
      rw[hF];exact List.Sublist.eq_of_length List.filter_sublist (by rw[← hF];exact hl)
    have hself:L.set (tri j+i) ⟨2,F⟩=L:=by
      refine set_same ?_;rw[h1,hFr,← h2.ar]
    refine⟨false,L,?_,?_,h,fun _=>⟨rfl,fun d hd=>?_⟩,fun h=>nomatch h⟩
    · rw[eI2,if_pos (by simp;omega)]
    · rw[eS,hself,decide_eq_false (by omega)]
    · rw[hp,← hFr,hF] at hd
      exact(List.mem_filter.1 hd).2
  · refine⟨true,_,?_,?_,hps,fun h=>(nomatch h),fun _=>?_⟩
    · rw[eI2,if_neg (by simp;omega)]
    · rw[eS,decide_eq_true (by omega)]
    · simp only at hset
      omega
end Go.Proofs.YticojbhjloeckaaGreat
namespace Go.Proofs.YticojbhjloeckaaGreat
set_option linter.unusedVariables false
set_option linter.unusedSimpArgs false
structure QInv (V B T:Nat) (D:Nat→Nat→Nat→Prop) (s:List PairStep×Bool×List Rel):Prop where
  ok:PairsOk V s.2.2
  sum:s.1.length+totR s.2.2≤T
  ge:B≤s.1.length
  yes:s.2.1=true→B<s.1.length
  no:s.2.1=false→s.1.length=B
  con:s.2.1=false→∀ i j k,i<j→j<V→k<V→k≠i→k≠j→D i j k→Cons3 s.2.2 i j k
theorem QInv.mono {V B T:Nat} {D D':Nat→Nat→Nat→Prop} {s:List PairStep×Bool×List Rel} (h:QInv V B T D s) (hd:∀ i j k,i<j→j<V→k<V→k≠i→k≠j→D' i j k→D i j k):QInv V B T D' s:=
  ⟨h.ok,h.sum,h.ge,h.yes,h.no,fun hf i j k h1 h2 h3 h4 h5 h6=>h.con hf i j k h1 h2 h3 h4 h5 (hd i j k h1 h2 h3 h4 h5 h6)⟩
theorem pass_two {N V B T:Nat} {u:Template} {ρ ρ':Type} (hu:u.size=2) (hV:1≤V∧V≤10) (hT:T≤1000) (hN:1100≤N) {s:List PairStep×Bool×List Rel} (I:QInv V B T (fun _ _ _=>False) s) :
    kJ (vQ (σ:=(List PairStep)×Bool×(List Rel)) (ρ:=ρ) (fun(k6907:Nat) (s:(List PairStep)×Bool×(List Rel))=>
        match s with
      | (s6893,s6896,s6897)=>
        vO (σ:=(List PairStep)×Bool×(List Rel)) (
         vQ (σ:=(List PairStep)×Bool×(List Rel)) (ρ:=(Ctl ((List PairStep)×Bool×(List Rel)) ρ)) (fun(k7216:Nat) (s:(List PairStep)×Bool×(List Rel))=>
           match s with
           | (s7202,s7205,s7206)=>
           vO (σ:=(List PairStep)×Bool×(List Rel)) (
            vQ (σ:=(List PairStep)×Bool×(List Rel)) (ρ:=(Ctl ((List PairStep)×Bool×(List Rel)) (Ctl ((List PairStep)×Bool×(List Rel)) ρ))) (fun(k7319:Nat) (s:(List PairStep)×Bool×(List Rel))=>
              match s with
              | (s7305,s7308,s7309)=>
              vO (σ:=(List Rel)×Bool) (
               if ((k7319:Int) != (k7216:Int)) then  if ((k7319:Int) != (k6907:Int)) then  xX (impl_narrow N u.size s7309 (PairStep.mk (k7216:Int) (k6907:Int) (k7319:Int))) fun z7344=>
                 some (.nx (z7344.2,z7344.1)) else  some (.nx (s7309,false)) else  some (.nx (s7309,false))) fun(s7338,s7341)=>
              if s7341 then
               xX (ap s7305 ([(PairStep.mk (k7216:Int) (k6907:Int) (k7319:Int))])) fun z7354=>
               some (.go (z7354,true,s7338))
              else
               some (.go (s7305,s7308,s7338))) ((V:Nat):Int).toNat 0 (s7202,s7205,s7206)) fun(s7312,s7315,s7316)=>
           some (.go (s7312,s7315,s7316))) (k6907:Int).toNat 0 (s6893,s6896,s6897)) fun(s7209,s7212,s7213)=>
        some (.go (s7209,s7212,s7213))) ((V:Nat):Int).toNat 0 s)
      (vQ (σ:=(List PairStep)×(List Rel)) (ρ:=ρ') (fun(k4167:Nat) (s:(List PairStep)×(List Rel))=>
        match s with
        | (s4157,s4160)=>
        vO (σ:=(List PairStep)×(List Rel)) (
         vQ (σ:=(List PairStep)×(List Rel)) (ρ:=(Ctl ((List PairStep)×(List Rel)) ρ')) (fun(k4512:Nat) (s:(List PairStep)×(List Rel))=>
           match s with
           | (s4502,s4505)=>
           vO (σ:=(List PairStep)×(List Rel)) (
            vQ (σ:=(List PairStep)×(List Rel)) (ρ:=(Ctl ((List PairStep)×(List Rel)) (Ctl ((List PairStep)×(List Rel)) ρ'))) (fun(k4625:Nat) (s:(List PairStep)×(List Rel))=>
              match s with
              | (s4615,s4618)=>
              vO (σ:=(List Rel)×Bool) (
               if ((k4625:Int) != (k4512:Int)) then  if ((k4625:Int) != (1+(k4167:Int))) then  xX (spec_l05Through N u.size s4618 (k4512:Int) (1+(k4167:Int)) (k4625:Int)) fun z4657=>
                 some (.nx (z4657.2,z4657.1)) else  some (.nx (s4618,false)) else  some (.nx (s4618,false))) fun(s4649,s4651)=>
              if s4651 then
               xX (ap s4615 ([(PairStep.mk (k4512:Int) (1+(k4167:Int)) (k4625:Int))])) fun z4667=>
               some (.go (z4667,s4649))
              else
               some (.go (s4615,s4649))) ((V:Nat):Int).toNat 0 (s4502,s4505)) fun(s4620,s4623)=>
           some (.go (s4620,s4623))) (1+(k4167:Int)).toNat 0 (s4157,s4160)) fun(s4507,s4510)=>
        some (.go (s4507,s4510))) (((V:Nat):Int) - 1).toNat 0 (s.1,s.2.2))
      (OutR (fun s s'=>s'=(s.1,s.2.2)∧QInv V B T (fun _ _ _=>True) s) (fun _ _=>False)):=by
  obtain⟨m,rfl⟩:∃ m,V=m+1:=⟨V - 1,by omega⟩;rw[show(((m+1:Nat):Int)).toNat=m+1 by omega,show(((m+1:Nat):Int) - 1).toNat=m by omega];obtain⟨o,c,L⟩:=s;rw[forI_go (s':=(o,c,L)) (k:=0) rfl];refine kJ.mono (kJ.forI 1 (fun n s s'=>s'=(s.1,s.2.2)∧QInv (m+1) B T (fun i j k=>j<n+1) s) (fun _ _=>False) (k:=0) ⟨rfl,I.mono (fun i j k h1 _ _ _ _ h=>by omega)⟩ (fun j s s' hj0 hj hR=>?_)) (fun a a' h=>?_)
  · obtain⟨o1,c1,L1⟩:=s
    obtain⟨rfl,I1⟩:=hR
    have hj1:(1:Int)+(j:Int)=((j+1:Nat):Int):=by omega
    simp only[hj1];rw[show(((j+1:Nat):Int)).toNat=j+1 by omega];refine kJ.thn (fun s s'=>s'=(s.1,s.2.2)∧QInv (m+1) B T (fun i' j' k=>j'<j+2) s) (fun _ _=>False) (kJ.mono (kJ.forI 0 (fun n s s'=>s'=(s.1,s.2.2)∧QInv (m+1) B T (fun i' j' k=>j'<j+1∨(j'=j+1∧i'<n)) s) (fun _ _=>False) (k:=0) ⟨rfl,I1.mono (fun i' j' k h1 _ _ _ _ h=>by omega)⟩ (fun i s s' hi0 hi hR=>?_)) (fun a a' h=>?_)) (fun a a' h=>?_) (fun _ _ h=>h.elim)
    · obtain⟨o2,c2,L2⟩:=s
      obtain⟨rfl,I2⟩:=hR;simp only[Nat.add_zero];refine kJ.thn (fun s s'=>s'=(s.1,s.2.2)∧QInv (m+1) B T (fun i' j' k=>j'<j+1∨(j'=j+1∧i'<i+1)) s) (fun _ _=>False) (kJ.mono (kJ.forI 0 (fun n s s'=>s'=(s.1,s.2.2)∧QInv (m+1) B T (fun i' j' k=>j'<j+1∨(j'=j+1∧(i'<i∨i'=i∧k<n))) s) (fun _ _=>False) (k:=0) ⟨rfl,I2.mono (fun i' j' k h1 _ _ _ _ h=>by omega)⟩ (fun k s s' hk0 hk hR=>?_)) (fun a a' h=>?_)) (fun a a' h=>?_) (fun _ _ h=>h.elim)
      · obtain⟨o3,c3,L3⟩:=s
        obtain⟨rfl,I3⟩:=hR;simp only[Nat.add_zero,hu]
        by_cases hki:k=i
        · have h1:((k:Int) != (i:Int))=false:=by simp [hki]
          simp only[h1,Bool.false_eq_true,if_false,thn_nx];refine kJ.s ⟨rfl,I3.mono (fun i' j' k' h1 h2 h3 h4 h5 h=>by omega)⟩
        · have h1:((k:Int) != (i:Int))=true:=by simp;omega
          by_cases hkj:k=j+1
          · have h2:((k:Int) != ((j+1:Nat):Int))=false:=by simp [hkj]
            simp only[h1,h2,Bool.false_eq_true,if_false,if_true,thn_nx];refine kJ.s ⟨rfl,I3.mono (fun i' j' k' h1 h2 h3 h4 h5 h=>by omega)⟩
          · have h2:((k:Int) != ((j+1:Nat):Int))=true:=by rw[bne_iff_ne];omega
            obtain⟨ch,L',n1,n2,n3,n4,n5⟩:=narrow_two (N:=N) I3.ok hV.2 (show i<j+1 by omega) (by omega) (show k<m+1 by omega) hki hkj hN;have hs:=I3.sum;have hg:=I3.ge;simp only at hs hg n4 n5;simp only[h1,h2,if_true,n1,n2,bnd_s,thn_nx]
            cases ch with
            | false=>
              obtain⟨rfl,hc⟩:=n4 rfl;simp only[Bool.false_eq_true,if_false];refine kJ.s ⟨rfl,I3.ok,I3.sum,I3.ge,I3.yes,I3.no,fun hf i' j' k' h1 h2 h3 h4 h5 h=>?_⟩
              by_cases he:i'=i∧j'=j+1∧k'=k
              · obtain⟨rfl,rfl,rfl⟩:=he
                exact hc
              · exact I3.con hf i' j' k' h1 h2 h3 h4 h5 (by omega)
            | true=>
              have ht:=n5 rfl;simp only[if_true];rw[ap_eq (by simp only[List.length_cons,List.length_nil];omega),bnd_s,bnd_s];refine kJ.s ⟨rfl,n3,?_,?_,fun _=>?_,fun h=>(nomatch h),fun h=>(nomatch h)⟩
              · show(o3++[_]).length+totR L'≤T
                rw[List.length_append,List.length_singleton];omega
              · show B≤(o3++[_]).length
                rw[List.length_append,List.length_singleton];omega
              · show B<(o3++[_]).length
                rw[List.length_append,List.length_singleton];omega
      · cases a<;>cases a'<;>first | exact⟨h.1,h.2.mono (fun i' j' k' h1 h2 h3 h4 h5 h=>by omega)⟩ | exact h
      · obtain⟨o3,c3,L3⟩:=a
        obtain⟨rfl,h⟩:=h;exact kJ.s ⟨rfl,h⟩
    · cases a<;>cases a'<;>first | exact⟨h.1,h.2.mono (fun i' j' k' h1 h2 h3 h4 h5 h=>by omega)⟩ | exact h
    · obtain⟨o3,c3,L3⟩:=a
      obtain⟨rfl,h⟩:=h;exact kJ.s ⟨rfl,h⟩
  · cases a<;>cases a'<;>first | exact⟨h.1,h.2.mono (fun i' j' k' h1 h2 h3 h4 h5 h=>by omega)⟩ | exact h
def PathOk (V:Nat) (L:List Rel):Prop:=∀ i j k,i<j→j<V→k<V→k≠i→k≠j→Cons3 L i j k
theorem makePairs_two {N V:Nat} {u:Template} {y:Instance} (hu:TV 2 u) (hy:y.cons.length≤24) (hC:∀ c∈y.cons,CV u y.vars c) (hV:y.vars=V) (hV1:1≤V∧V≤10) (hN:1100≤N) :
    ∃ L0 L out,spec_l05First N u y=some L0∧impl_makePairs N u y=some (L,out)∧spec_l05Pairs N u y L0=some (out,L)∧PairsOk V L∧PathOk V L:=by
  obtain⟨L0,L0',f1,f2,rfl,hok⟩:=First_two (N:=N) hu hy hC hV hV1 (by omega);have hT0:=totR_le L0 hok.r;have htr:=tri_le hV1.2;have hlen:=hok.len;obtain⟨T,hTd⟩:∃ T,T=totR L0:=⟨_,rfl⟩
  have key:kJ (impl_makePairs N u y) (spec_l05Pairs N u y L0) (fun r r'=>r'=(r.2,r.1)∧PairsOk V r.1∧PathOk V r.1):=by
    unfold impl_makePairs spec_l05Pairs
    have f1':impl_firstPairs N (Template.mk u.size u.rels) (Instance.mk y.vars y.cons)=some L0:=f1;rw[f1',bnd_s,hV];refine kJ.thn (fun t t'=>t'.1=t.1∧t'.2.2=t.2.2∧PairsOk V t.2.2∧PathOk V t.2.2) (fun r r'=>False) (kJ.whl (fun s s'=>∃ bf:Int,s'=(s.1,bf,s.2.2)∧(s.2.1=true↔bf≠(s.1.length:Int))∧PairsOk V s.2.2∧s.1.length+totR s.2.2≤T∧(s.2.1=false→PathOk V s.2.2)) _ _ (fun s=>totR s.2.2+(if s.2.1 then 1 else 0)) ?_ ⟨-1,rfl,⟨fun _=>by simp,fun _=>rfl⟩,hok,by simp [hTd],fun h=>nomatch h⟩ (fun s s' hR=>?_)) (fun t t' h=>?_) (fun r r' h=>h.elim)
    · simp only[if_true];omega
    · obtain⟨out,ch,L⟩:=s
      obtain⟨bf,rfl,hb,ok,hs,hp⟩:=hR;simp only at hb ok hs hp ⊢
      cases ch with
      | false=>
        have hbf:bf=(out.length:Int):=by
          by_cases h:bf=(out.length:Int)
          · exact h
          · exact absurd (hb.2 h) (by simp)
        rw[if_neg (by simp),if_neg (by simp [hbf])];exact kJ.s ⟨rfl,rfl,ok,hp rfl⟩
      | true=>
        rw[if_pos rfl,if_pos (by simpa using hb.1 rfl)];have hp2:=pass_two (N:=N) (V:=V) (B:=out.length) (T:=out.length+totR L) (u:=u) (ρ:=(Ctl ((List PairStep)×Bool×(List Rel)) ((List Rel)×(List PairStep)))) (ρ':=(Ctl ((List PairStep)×Int×(List Rel)) ((List PairStep)×(List Rel)))) hu.s hV1 (by omega) hN (s:=(out,false,L)) ⟨ok,Nat.le_refl _,Nat.le_refl _,(fun h=>nomatch h),fun _=>rfl,fun _ _ _ _ _ _ _ _ _ h=>h.elim⟩;refine kJ.thn (fun s s'=>s'=(s.1,s.2.2)∧QInv V out.length (out.length+totR L) (fun _ _ _=>True) s) (fun r r'=>False) hp2 (fun a b h=>?_) (fun r r' h=>h.elim);obtain⟨o3,c3,L3⟩:=a;obtain⟨rfl,h⟩:=h;have h6:=h.sum;have h7:=h.ge;simp only at h h6 h7 ⊢;refine kJ.s ⟨⟨(out.length:Int),rfl,?_,h.ok,(show o3.length+totR L3≤T by omega),fun hc=>fun i j k h1 h2 h3 h4 h5=>h.con hc i j k h1 h2 h3 h4 h5 trivial⟩,?_⟩
        · constructor
          · intro hc;have:=h.yes hc;show(out.length:Int)≠(o3.length:Int);simp only at this;omega
          · intro hc
            change (out.length:Int)≠(o3.length:Int) at hc
            cases hc3:c3 with
            | true=>rfl
            | false=>have:=h.no hc3;simp only at this;exact absurd (by omega) hc
        · cases hc3:c3 with
          | true=>have:=h.yes hc3;simp only at this;simp only[if_true];omega
          | false=>have:=h.no hc3;simp only at this;simp only[Bool.false_eq_true,if_false,if_true];omega
    · obtain⟨h1,h2,h3,h4⟩:=h
      obtain⟨o,c,d⟩:=t;obtain⟨o',c',d'⟩:=t';simp only at h1 h2 h3 h4 ⊢;subst h1 h2;exact kJ.s ⟨rfl,h3,h4⟩
  obtain⟨r,r',k1,k2,rfl,k3,k4⟩:=key;exact⟨L0,r.1,r.2,f2,k1,k2,k3,k4⟩
end Go.Proofs.YticojbhjloeckaaGreat
namespace Go.Proofs.YticojbhjloeckaaGreat
set_option linter.unusedVariables false
set_option linter.unusedSimpArgs false
theorem from_eq {T:Nat} {u:Template} {y:Instance} (hu:TV T u) (h:∀ c∈y.cons,CW u y.vars c) (hv:0≤y.vars∧y.vars≤10) (K':Int):∀ (d N:Nat) (vs:List Int) (cnt:Int),(vs.length:Int)+d=y.vars→d+1≤N→0≤cnt∧cnt≤1000→kB N u y 1 [] cnt vs=some (match findS u (fY K' y) d vs with | some o=>([o],cnt+1) | none=>([],cnt))
  | 0,N,vs,cnt,hd,hN,hc=>by
    obtain⟨M,rfl⟩:∃ M,N=M+1:=⟨N - 1,by omega⟩;rw[kB,if_pos (by simp;omega),kH (by omega) (by omega),bnd_s,if_pos (by rfl),own_eq _ (by omega),bnd_s,ap_eq (by simp only[List.length_cons,List.length_nil];omega),bnd_s,thn_nx]
    rfl
  | d+1,N,vs,cnt,hd,hN,hc=>by
    obtain⟨M,rfl⟩:∃ M,N=M+1:=⟨N - 1,by omega⟩;have ih:=from_eq hu h hv K' d M;rw[kB,if_neg (by simp;omega)]
    have hl:∀ a:Nat,(vs++[(a:Int)]).length=vs.length+1:=fun a=>by simp
    have key:∀ (m k:Nat) (b:Nat→(List (List Int))×Int→Option (Ctl ((List (List Int))×Int) ((List (List Int))×Int))),
        (∀ (a:Nat) o c,b a ([o],c)=some (.ret ([o],c)))→(∀ a:Nat,b a ([],cnt)=some (.go (match (if sureS u (fY K' y) (vs++[(a:Int)]) then findS u (fY K' y) d (vs++[(a:Int)]) else none) with | some o=>([o],cnt+1) | none=>([],cnt)))) →
        vO (vQ b m k ([],cnt)) (fun s=>some s)=some (match (List.range' k m).findSome? fun(a:Nat)=>if sureS u (fY K' y) (vs++[(a:Int)]) then findS u (fY K' y) d (vs++[(a:Int)]) else none with | some o=>([o],cnt+1) | none=>([],cnt)):=by
      intro m
      induction m with
      | zero=>intro k b _ _;rfl
      | succ m ihm=>
        intro k b h1 h2;rw[forI_go (h2 k),List.range'_succ,List.findSome?_cons]
        cases (if sureS u (fY K' y) (vs++[(k:Int)]) then findS u (fY K' y) d (vs++[(k:Int)]) else none) with
        | none=>exact ihm (k+1) b h1 h2
        | some o=>
          simp only
          cases m with
          | zero=>rfl
          | succ m=>rw[forI_rt (h1 (k+1) o (cnt+1))];rfl
    refine key u.size.toNat 0 _ (fun a o c=>?_) (fun a=>?_)
    · simp only
      rw[if_pos (by decide),thn_nx]
      rfl
    · simp only
      rw[if_pos (by decide),thn_nx,if_neg (by simp),own_eq _ (by omega),bnd_s,ap_eq (by simp only[List.length_cons,List.length_nil];omega),bnd_s,sureY_eq K' hu h (by rw[hl];omega),bnd_s]
      by_cases hs:sureS u (fY K' y) (vs++[(a:Int)])=true
      · rw[if_pos hs,if_pos hs,ih _ cnt (by rw[hl];push_cast;omega) (by omega) hc,bnd_s]
      · rw[if_neg hs,if_neg hs]
theorem findS_len (u:Template) (f:Formula):∀ (d:Nat) (vs o:List Int),findS u f d vs=some o→o.length=vs.length+d
  | 0,vs,o,h=>by
    have:vs=o:=Option.some.inj h;rw[← this];rfl
  | d+1,vs,o,h=>by
    obtain⟨a,_,h2⟩:=List.exists_of_findSome?_eq_some h
    by_cases hs:sureS u f (vs++[(a:Int)])=true
    · rw[if_pos hs] at h2
      have:=findS_len u f d _ o h2;rw[List.length_append,List.length_singleton] at this
      omega
    · rw[if_neg hs] at h2;cases h2
theorem Solutions1_eq {T N:Nat} {u:Template} {y:Instance} (hu:TV T u) (h:∀ c∈y.cons,CW u y.vars c) (hv:0≤y.vars∧y.vars≤10) (hN:20≤N) (K':Int):spec_l05Solutions N u y 1=some (match findS u (fY K' y) y.vars.toNat [] with | some o=>[o] | none=>[]):=by
  unfold spec_l05Solutions
  rw[from_eq hu h hv K' y.vars.toNat N [] 0 (by simp only[List.length_nil];omega) (by omega) (by omega),bnd_s]
  cases findS u (fY K' y) y.vars.toNat []<;>rfl
def fitB (L:List Rel) (vs:List Int) (n:Nat) (a:Int):Bool:=(List.range' 0 vs.length).all fun p=>lfB L p n (vs.getD p 0) a
theorem byPairs1_eq {N V:Nat} {L:List Rel} (h:PairsOk V L) (hV:V≤10) {vs:List Int} {n:Nat} (hn:n<V) (hl:vs.length=n) (a:Int) (hN:1100≤N):impl_byPairs_1 N a vs L (n:Int)=some (fitB L vs n a):=by
  unfold impl_byPairs_1
  rw[kR (fun k _=>if (!lfB L k n (vs.getD k 0) a) then some false else none) (fun j x hj=>by
    have hjl:=(List.getElem?_eq_some_iff.1 hj).1;rw[Nat.zero_add];have hx:=getD_of hj;rw[← hx,(isLeft_two h hV (show j<V by omega) hn (by omega) (vs.getD j 0) a hN).1,bnd_s]
    cases lfB L j n (vs.getD j 0) a<;>rfl),fnd_range (fun k=>!lfB L k n (vs.getD k 0) a)]
  unfold fitB
  rw[← List.not_all_eq_any_not]
  cases (List.range' 0 vs.length).all fun p=>lfB L p n (vs.getD p 0) a<;>rfl
theorem fit_whl {N V : Nat} {L : List Rel} {ρ : Type} (h : PairsOk V L) (hV : V ≤ 10) {vs : List Int} {n : Nat} (hn : n < V) (hl : vs.length = n) (a : Int) (hN : 1100 ≤ N) : ∃ e : Nat, whl (σ := Bool × Int) (ρ := ρ) (fun (s : Bool × Int) =>
           match s with
           | (s434,s435)=>
           vO (σ:=Bool) (
            if (decide (s435<(n:Int))) then  some (.nx s434) else  some (.nx false)) fun s450=>
           if s450 then
            xX (ix vs s435) fun z453=>
            xX (kF L s435 (n:Int) z453 a) fun z458=>
            xX (ck (s435+1)) fun z460=>
            some (.go (z458,z460))
           else
            some (.brk (s434,s435))) N (true,0)=some (.nx (fitB L vs n a,(e:Int))):=by
  refine whl_all (List.range' 0 vs.length) (fun p=>lfB L p n (vs.getD p 0) a) (fun q t hq=>?_) (fun f q hfq=>?_) (List.range' 0 vs.length) 0 N rfl (by rw[List.length_range'];omega)
  · have hql:=(List.getElem?_eq_some_iff.1 hq).1
    rw[List.length_range'] at hql
    have ht:t=q:=by
      rw[List.getElem?_range' (by omega)] at hq;have:=Option.some.inj hq
      omega
    subst ht;simp only;rw[if_pos (by simp;omega),thn_nx,if_pos rfl,ix_getD hql,bnd_s,(isLeft_two h hV (show t<V by omega) hn (by omega) (vs.getD t 0) a hN).2,bnd_s,kH (by omega) (by omega),bnd_s]
    rfl
  · rw[List.length_range'] at hfq
    by_cases hl2:((q:Int)<(n:Int))
    · have hf:f=false:=by
        rcases hfq with h | h
        · exact h
        · omega
      subst hf
      simp [hl2]
    · simp [hl2]
structure Good (V:Nat) (L:List Rel) (n:Nat) (vs:List Int):Prop where
  l:vs.length=n
  b:∀ p,p<n→vs.getD p 0=0∨vs.getD p 0=1
  g:∀ p q,p<q→q<n→lfB L p q (vs.getD p 0) (vs.getD q 0)=true
theorem lf_bit {V:Nat} {L:List Rel} (h:PairsOk V L) {i j:Nat} (hi:i<j) (hj:j<V) {d:List Int} (hd:d∈prel L i j):d=[d.getD 0 0,d.getD 1 0]∧(d.getD 0 0=0∨d.getD 0 0=1)∧(d.getD 1 0=0∨d.getD 1 0=1):=by
  obtain⟨h1,h2⟩:=h.at hi hj;obtain⟨m1,m2⟩:=enum_mem.1 (h2.m d hd)
  match d,m1 with
  | [a,b],_=>
    have ha:=m2 a (by simp);have hb:=m2 b (by simp);refine⟨rfl,?_,?_⟩
    · show a=0∨a=1;omega
    · show b=0∨b=1;omega
theorem helly {V:Nat} {L:List Rel} (h:PairsOk V L) (hp:PathOk V L) {n:Nat} {vs:List Int} (hn:n<V) (hG:Good V L n vs) (h1:n=1→∃ b:Int,(b=0∨b=1)∧lfB L 0 1 (vs.getD 0 0) b=true) (hn1:1≤n):fitB L vs n 0=true∨fitB L vs n 1=true:=by
  have hall:∀ a:Int,fitB L vs n a=true↔∀ p,p<n→lfB L p n (vs.getD p 0) a=true:=fun a=>by
    unfold fitB
    rw[List.all_eq_true,hG.l]
    constructor
    · intro h p hp
      exact h p (List.mem_range'_1.2 (by omega))
    · intro h p hp
      have:=List.mem_range'_1.1 hp;exact h p (by omega)
  have lfsym:∀ (p q:Nat) (a b:Int),p≠q→lfB L p q a b=lfB L q p b a:=fun p q a b hne=>by
    unfold lfB
    rcases Nat.lt_or_ge q p with h | h
    · rw[if_pos h,if_neg (by omega)]
    · rw[if_neg (show ¬ q<p by omega),if_pos (by omega)]
  rw[hall,hall]
  by_cases h0:∀ p,p<n→lfB L p n (vs.getD p 0) 0=true
  · exact .inl h0
  · refine .inr ?_
    simp only[Classical.not_forall] at h0;obtain⟨q,hq,hq0⟩:=h0
    have meet:∀ p,p<n→p≠q→lfB L p n (vs.getD p 0) 1=true∧lfB L q n (vs.getD q 0) 1=true:=fun p hpn hne=>by
      rcases Nat.lt_or_ge p q with hlt | hge
      · have hg:=hG.g p q hlt hq
        have hmem:[vs.getD p 0,vs.getD q 0]∈prel L p q:=by
          unfold lfB at hg
          rw[if_neg (by omega)] at hg
          simpa using hg
        have hs:=hp p q n hlt (by omega) hn (by omega) (by omega) _ hmem
        unfold supB at hs
        rw[List.any_eq_true] at hs;obtain⟨v,hv,hs⟩:=hs;have hv2:=List.mem_range'_1.1 hv;rw[Bool.and_eq_true] at hs;obtain⟨s1,s2⟩:=hs
        change lfB L p n (vs.getD p 0) (v:Int)=true at s1
        change lfB L n q (v:Int) (vs.getD q 0)=true at s2
        rw[lfsym n q _ _ (by omega)] at s2
        have:v=0∨v=1:=by omega
        rcases this with rfl | rfl
        · exact absurd s2 hq0
        · exact⟨s1,s2⟩
      · have hlt:q<p:=by omega
        have hg:=hG.g q p hlt hpn
        have hmem:[vs.getD q 0,vs.getD p 0]∈prel L q p:=by
          unfold lfB at hg
          rw[if_neg (by omega)] at hg
          simpa using hg
        have hs:=hp q p n hlt (by omega) hn (by omega) (by omega) _ hmem
        unfold supB at hs
        rw[List.any_eq_true] at hs;obtain⟨v,hv,hs⟩:=hs;have hv2:=List.mem_range'_1.1 hv;rw[Bool.and_eq_true] at hs;obtain⟨s1,s2⟩:=hs
        change lfB L q n (vs.getD q 0) (v:Int)=true at s1
        change lfB L n p (v:Int) (vs.getD p 0)=true at s2
        rw[lfsym n p _ _ (by omega)] at s2
        have:v=0∨v=1:=by omega
        rcases this with rfl | rfl
        · exact absurd s1 hq0
        · exact⟨s2,s1⟩
    have hq1:lfB L q n (vs.getD q 0) 1=true:=by
      by_cases hn2:n=1
      · obtain⟨b,hb,hb2⟩:=h1 hn2
        have:q=0:=by omega
        subst this;subst hn2
        rcases hb with rfl | rfl
        · exact absurd hb2 hq0
        · exact hb2
      · have:∃ p,p<n∧p≠q:=by
          by_cases hq2:q=0
          · exact⟨1,by omega,by omega⟩
          · exact⟨0,by omega,by omega⟩
        obtain⟨p,hp1,hp2⟩:=this;exact(meet p hp1 hp2).2
    intro p hpn
    by_cases hpq:p=q
    · rw[hpq];exact hq1
    · exact(meet p hpn hpq).1
def pickV (L:List Rel) (vs:List Int) (n:Nat):Int:=if fitB L vs n 0 then 0 else 1
theorem pick_fit {L:List Rel} {vs:List Int} {n:Nat} (h:fitB L vs n 0=true∨fitB L vs n 1=true):fitB L vs n (pickV L vs n)=true:=by
  unfold pickV
  split
  · assumption
  · exact h.resolve_left (by assumption)
theorem good_next {V:Nat} {L:List Rel} {n:Nat} {vs:List Int} (hG:Good V L n vs) (h:fitB L vs n (pickV L vs n)=true):Good V L (n+1) (vs++[pickV L vs n]):=by
  have hl:=hG.l
  have g1:∀ p,p<n→(vs++[pickV L vs n]).getD p 0=vs.getD p 0:=fun p hp=>by
    rw[List.getD_eq_getElem?_getD,List.getD_eq_getElem?_getD,List.getElem?_append_left (by omega)]
  have g2:(vs++[pickV L vs n]).getD n 0=pickV L vs n:=by
    rw[List.getD_eq_getElem?_getD,List.getElem?_append_right (by omega),hl,Nat.sub_self]
    rfl
  refine⟨by rw[List.length_append,hl];rfl,fun p hp=>?_,fun p q hpq hq=>?_⟩
  · rcases Nat.lt_or_ge p n with h1 | h1
    · rw[g1 p h1];exact hG.b p h1
    · obtain rfl:p=n:=by omega
      rw[g2]
      unfold pickV
      split
      · exact .inl rfl
      · exact .inr rfl
  · rcases Nat.lt_or_ge q n with h1 | h1
    · rw[g1 q h1,g1 p (by omega)];exact hG.g p q hpq h1
    · obtain rfl:q=n:=by omega
      rw[g2,g1 p hpq]
      unfold fitB at h
      rw[List.all_eq_true] at h;exact h p (List.mem_range'_1.2 (by omega))
theorem look_whl {N V : Nat} {L : List Rel} {ρ : Type} (h : PairsOk V L) (hV : V ≤ 10) {vs : List Int} {n : Nat} (hn : n < V) (hl : vs.length = n) (hN : 1100 ≤ N) (hf : fitB L vs n 0 = true ∨ fitB L vs n 1 = true) {sz : Int} (hsz : sz = 2) : whl (σ := Int × Bool) (ρ := ρ) (fun (s : Int × Bool) =>
       match s with
       | (s384,s386)=>
       vO (σ:=Bool) (
        if (!s386) then  some (.nx (decide (s384<sz))) else  some (.nx false)) fun s403=>
       if s403 then
        vO (σ:=Bool×Int) (
         whl (σ:=Bool×Int) (ρ:=(Ctl (Int×Bool) ρ)) (fun(s:Bool×Int)=>
           match s with
           | (s434,s435)=>
           vO (σ:=Bool) (
            if (decide (s435<(n:Int))) then  some (.nx s434) else  some (.nx false)) fun s450=>
           if s450 then
            xX (ix vs s435) fun z453=>
            xX (kF L s435 (n:Int) z453 s384) fun z458=>
            xX (ck (s435+1)) fun z460=>
            some (.go (z458,z460))
           else
            some (.brk (s434,s435))) N (true,0)) fun(s437,s438)=>
        if (!s437) then
         xX (ck (s384+1)) fun z463=>
         some (.go (z463,s437))
        else
         some (.go (s384,s437))
       else
        some (.brk (s384,s386))) N (0,false)=some (.nx (pickV L vs n,true)):=by
  subst hsz;obtain⟨M,rfl⟩:∃ M,N=M+3:=⟨N - 3,by omega⟩;obtain⟨e0,w0⟩:=fit_whl (N:=M+3) (ρ:=(Ctl (Int×Bool) ρ)) h hV hn hl 0 hN;obtain⟨e1,w1⟩:=fit_whl (N:=M+3) (ρ:=(Ctl (Int×Bool) ρ)) h hV hn hl 1 hN;have hc:ck ((0:Int)+1)=some 1:=rfl
  unfold pickV
  by_cases h0:fitB L vs n 0=true
  · rw[h0] at w0
    rw[show M+3=(M+2)+1 from rfl,whl_go (s':=(0,true)) (by
      simp only[Bool.not_false,if_true,show decide ((0:Int)<2)=true from rfl,thn_nx,w0,Bool.not_true,Bool.false_eq_true,if_false]),show M+2=(M+1)+1 from rfl,whl_brk (s':=(0,true)) (by
      simp only[Bool.not_true,Bool.false_eq_true,if_false,thn_nx]),if_pos h0]
  · have h1:=hf.resolve_left h0
    have h0':fitB L vs n 0=false:=by simpa using h0
    rw[h0'] at w0;rw[h1] at w1
    rw[show M+3=(M+2)+1 from rfl,whl_go (s':=(1,false)) (by
      simp only[Bool.not_false,if_true,show decide ((0:Int)<2)=true from rfl,thn_nx,w0,hc,bnd_s]),show M+2=(M+1)+1 from rfl,whl_go (s':=(1,true)) (by
      simp only[Bool.not_false,if_true,show decide ((1:Int)<2)=true from rfl,thn_nx,w1,Bool.not_true,Bool.false_eq_true,if_false]),whl_brk (s':=(1,true)) (by
      simp only[Bool.not_true,Bool.false_eq_true,if_false,thn_nx]),if_neg h0]
theorem index_pick {N V:Nat} {L:List Rel} (h:PairsOk V L) (hV:V≤10) {vs:List Int} {n:Nat} (hn:n<V) (hl:vs.length=n) (hN:1100≤N) (hf:fitB L vs n 0=true∨fitB L vs n 1=true):qQ (iotA 0 2) (fun a0=>impl_byPairs_1 N a0 vs L (n:Int))=some (pickV L vs n):=by
  rw[indexFst (iotA 0 2) (fitB L vs n) _ (fun a=>byPairs1_eq h hV hn hl a hN)];have e:iotA 0 2=[0,1]:=rfl;rw[e]
  unfold fstI pickV
  by_cases h0:fitB L vs n 0=true
  · rw[if_pos h0,if_pos h0];rfl
  · rw[if_neg h0,if_neg h0]
    unfold fstI
    rw[if_pos (hf.resolve_left h0)]
    rfl
def allV (L:List Rel):Nat→Nat→List Int→List Int
  | 0,_,vs=>vs
  | m+1,n,vs=>allV L m (n+1) (vs++[pickV L vs n])
theorem allV_len (L:List Rel):∀ (m n:Nat) (vs:List Int),(allV L m n vs).length=vs.length+m
  | 0,_,_=>rfl
  | m+1,n,vs=>by rw[allV,allV_len L m];simp;omega
def Seed (L:List Rel) (n:Nat) (vs:List Int):Prop:=n=1→∃ b:Int,(b=0∨b=1)∧lfB L 0 1 (vs.getD 0 0) b=true
theorem impl_vals {N V:Nat} {L:List Rel} (h:PairsOk V L) (hp:PathOk V L) (hV:V≤10) (hN:1100≤N) {sz:Int} (hsz:sz=2) {ρ:Type} (r:ρ):∀ (m n M:Nat) (vs:List Int),n+m=V→m<M→1≤n→Good V L n vs→Seed L n vs →
    whl (σ:=(List Int)×Int) (ρ:=ρ) (fun(s:(List Int)×Int)=>
      match s with
      | (s127,s131)=>
      if (decide (s131<(V:Int))) then
       xX (impl_upTo 0 sz) fun z146=>
       xX (qQ z146 (fun a0=>impl_byPairs_1 N a0 s127 L s131)) fun z151=>
       if (decide (z151<0)) then
        some (.ret r)
       else
        xX (ap s127 ([z151])) fun z157=>
        xX (ck (s131+1)) fun z162=>
        some (.go (z157,z162))
      else
       some (.brk (s127,s131))) M (vs,(n:Int))=some (.nx (allV L m n vs,(V:Int)))
  | 0,n,M,vs,hnm,hM,h1,hG,hS=>by
    obtain⟨M,rfl⟩:∃ M',M=M'+1:=⟨M - 1,by omega⟩
    obtain rfl:n=V:=by omega
    exact whl_brk (by simp only;rw[if_neg (by simp)];rfl)
  | m+1,n,M,vs,hnm,hM,h1,hG,hS=>by
    obtain⟨M,rfl⟩:∃ M',M=M'+1:=⟨M - 1,by omega⟩;have hf:=helly h hp (show n<V by omega) hG hS h1;have hl:=hG.l
    have hpv:pickV L vs n=0∨pickV L vs n=1:=by unfold pickV;split<;>simp
    have hu:impl_upTo 0 sz=some (iotA 0 2):=by subst hsz;exact upTo_eq (V:=0) (m:=2) (by omega) (by omega)
    rw[whl_go (s':=(vs++[pickV L vs n],((n+1:Nat):Int))) (by
      simp only;rw[if_pos (by simp;omega),hu,bnd_s,index_pick h hV (by omega) hl hN hf,bnd_s,if_neg (by simp;omega),ap_eq (by simp only[List.length_cons,List.length_nil];omega),bnd_s,kH (by omega) (by omega),bnd_s]
      rfl)]
    rw[allV];exact impl_vals h hp hV hN hsz r m (n+1) M _ (by omega) (by omega) (by omega) (good_next hG (pick_fit hf)) (fun h9=>by omega)
theorem spec_vals {N V:Nat} {L:List Rel} (h:PairsOk V L) (hp:PathOk V L) (hV:V≤10) (hN:1100≤N) {sz:Int} (hsz:sz=2) {ρ:Type}:∀ (m k:Nat) (vs:List Int),1+k+m=V→Good V L (1+k) vs→Seed L (1+k) vs →
    vQ (σ:=(List Int)) (ρ:=ρ) (fun(k297:Nat) (s291:(List Int))=>
    vO (σ:=Int×Bool) (
     whl (σ:=Int×Bool) (ρ:=(Ctl ((List Int)) ρ)) (fun(s:Int×Bool)=>
       match s with
       | (s384,s386)=>
       vO (σ:=Bool) (
        if (!s386) then  some (.nx (decide (s384<sz))) else  some (.nx false)) fun s403=>
       if s403 then
        vO (σ:=Bool×Int) (
         whl (σ:=Bool×Int) (ρ:=(Ctl (Int×Bool) (Ctl ((List Int)) ρ))) (fun(s:Bool×Int)=>
           match s with
           | (s434,s435)=>
           vO (σ:=Bool) (
            if (decide (s435<(1+(k297:Int)))) then  some (.nx s434) else  some (.nx false)) fun s450=>
           if s450 then
            xX (ix s291 s435) fun z453=>
            xX (kF L s435 (1+(k297:Int)) z453 s384) fun z458=>
            xX (ck (s435+1)) fun z460=>
            some (.go (z458,z460))
           else
            some (.brk (s434,s435))) N (true,0)) fun(s437,s438)=>
        if (!s437) then
         xX (ck (s384+1)) fun z463=>
         some (.go (z463,s437))
        else
         some (.go (s384,s437))
       else
        some (.brk (s384,s386))) N (0,false)) fun(s387,s389)=>
    xX (ap s291 ([s387])) fun z467=>
    some (.go z467)) m k vs=some (.nx (allV L m (1+k) vs))
  | 0,k,vs,_,_,_=>rfl
  | m+1,k,vs,hm,hG,hS=>by
    have hf:=helly h hp (show 1+k<V by omega) hG hS (by omega);have hl:=hG.l
    have hk:(1:Int)+(k:Int)=((1+k:Nat):Int):=by omega
    have hw:=look_whl (N:=N) (ρ:=(Ctl ((List Int)) ρ)) h hV (show 1+k<V by omega) hl hN hf hsz
    rw[forI_go (s':=vs++[pickV L vs (1+k)]) (by
      simp only[hk]
      rw[hw,thn_nx,ap_eq (by simp only[List.length_cons,List.length_nil];omega),bnd_s])]
    rw[allV];exact spec_vals h hp hV hN hsz m (k+1) _ (by omega) (good_next hG (pick_fit hf)) (fun h9=>by omega)
theorem byPairs_two {N:Nat} {u:Template} {y:Instance} (hu:TV 2 u) (hv:1≤y.vars∧y.vars≤10) (hy:y.cons.length≤24) (hC:∀ c∈y.cons,CV u y.vars c) (hN:1100≤N):kJ (impl_byPairs N u y) (spec_l09Pairs N u y) (fun r r'=>r=r'∧r.1.length≤10):=by
  have hCW:∀ c∈y.cons,CW u y.vars c:=fun c hc=>cv_cw hu (hC c hc)
  unfold impl_byPairs spec_l09Pairs
  by_cases h1:y.vars=1
  · have e:(y.vars==1)=true:=by simpa using h1
    rw[if_pos e,if_pos e];have hF:FX u (fY 1 y):=fY_FX hCW (by omega) hv.2 hy;have s1:impl_solverFor (Template.mk u.size u.rels) (Instance.mk y.vars y.cons)=some (solS u (fY 1 y)):=solverFor_eq hu hF;rw[s1,bnd_s,first0_eq hu hF hN,bnd_s,Solutions1_eq hu hCW (by omega) (by omega) 1,bnd_s];have hfv:(fY 1 y).vars.toNat=y.vars.toNat:=rfl;rw[hfv];have hlen:=findS_len u (fY 1 y) y.vars.toNat []
    cases hfs:findS u (fY 1 y) y.vars.toNat [] with
    | none=>exact kJ.s ⟨rfl,Nat.zero_le _⟩
    | some o=>
      have:=hlen o hfs;simp only;exact kJ.s ⟨rfl,by show o.length≤10;rw[this];simp only[List.length_nil];omega⟩
  · have e:(y.vars==1)=false:=by simpa using h1
    rw[e,if_neg (by simp),if_neg (by simp)];obtain⟨V,hV⟩:∃ V:Nat,y.vars=V:=⟨y.vars.toNat,by omega⟩;obtain⟨L0,L,out,f1,f2,f3,hok,hp⟩:=makePairs_two hu hy hC hV (by omega) hN;have f2':impl_makePairs N (Template.mk u.size u.rels) (Instance.mk y.vars y.cons)=some (L,out):=f2;rw[f2',f1,bnd_s,bnd_s,f3,bnd_s];simp only;rw[containsR_eq L (fun r=>(r.tuples.length:Int)==0) (fun a0=>impl_hasNone a0) (fun r _=>rfl),bnd_s]
    rw[kR (fun _ (r:Rel)=>if ((r.tuples.length:Int)==0) then some (([]:List Int),false) else none) (fun j r hj=>by
      by_cases hr:((r.tuples.length:Int)==0)=true
      · rw[if_pos hr,if_pos hr];rfl
      · rw[if_neg hr,if_neg hr];rfl),fnd_any]
    cases hany:L.any (fun r=>(r.tuples.length:Int)==0) with
    | true=>exact kJ.s ⟨rfl,Nat.zero_le _⟩
    | false=>
      have hlt:tri 1+0<tri V:=tri_lt (by omega) (by omega);obtain⟨a1,a2⟩:=hok.at (i:=0) (j:=1) (by omega) (by omega)
      have hne:(L.getD (tri 1+0) default).tuples≠[]:=fun h=>by
        have:=List.any_eq_false.1 hany _ (List.mem_of_getElem? a1);rw[h] at this
        simp at this
      obtain⟨d,ds,hd⟩:=List.exists_cons_of_ne_nil hne
      have hdm:d∈prel L 0 1:=by unfold prel;rw[hd];simp
      obtain⟨b1,b2,b3⟩:=lf_bit hok (show 0<1 by omega) (by omega) hdm;have i1:ix L 0=some (L.getD (tri 1+0) default):=oV (i:=0) a1
      have i2:ix (L.getD (tri 1+0) default).tuples 0=some d:=by rw[hd];rfl
      have i3:ix d 0=some (d.getD 0 0):=by rw[b1];rfl
      have hG:Good V L 1 [d.getD 0 0]:=by
        refine⟨rfl,fun p hp=>?_,fun p q h1 h2=>by omega⟩
        obtain rfl:p=0:=by omega
        exact b2
      have hS:Seed L 1 [d.getD 0 0]:=fun _=>⟨d.getD 1 0,b3,by
        unfold lfB
        rw[if_neg (by omega)]
        show decide ([d.getD 0 0,d.getD 1 0]∈prel L 0 1)=true
        rw[← b1]
        simpa using hdm⟩
      simp only[Bool.false_eq_true,if_false,outO,thn_nx,i1,i2,i3,bnd_s,hV];have w1:=impl_vals hok hp (by omega) hN hu.s (([]:List Int),false) (V - 1) 1 N [d.getD 0 0] (by omega) (by omega) (by omega) hG hS;have w2:=spec_vals (ρ:=(List Int)×Bool) hok hp (by omega) hN hu.s (V - 1) 0 [d.getD 0 0] (by omega) hG hS;rw[show((1:Nat):Int)=1 from rfl] at w1;rw[w1,thn_nx,show((V:Int) - 1).toNat=V - 1 by omega,w2,thn_nx];exact kJ.s ⟨rfl,by show(allV L (V - 1) 1 [d.getD 0 0]).length≤10;rw[allV_len,List.length_singleton];omega⟩
end Go.Proofs.YticojbhjloeckaaGreat
namespace Go.Proofs.YticojbhjloeckaaGreat
set_option linter.unusedVariables false
set_option linter.unusedSimpArgs false
def Bits (l:List Int):Prop:=∀ a∈l,0≤a∧a≤1
def allBits:Nat→List (List Int)
  | 0=>[[]]
  | n+1=>(allBits n).flatMap fun l=>[0::l,1::l]
theorem mem_allBits:∀ (l:List Int),Bits l→l∈allBits l.length
  | [],_=>by simp [allBits]
  | a::l,h=>by
    have h1:=mem_allBits l (fun b hb=>h b (by simp [hb]));have h2:=h a (by simp);rw[List.length_cons]
    unfold allBits
    refine List.mem_flatMap.2 ⟨l,h1,?_⟩
    have:a=0∨a=1:=by omega
    rcases this with rfl | rfl<;>simp
def codeN (l:List Int):Int:=l.foldl (fun a x=>a*2+x) 0
def codeOk (n:Nat) (a:List Int):Bool:=decide (spec_l01Code 2 a=some (codeN a)) && (decide (0≤codeN a) && decide (codeN a<((2 ^ n:Nat):Int)))
theorem codes0:([0,1,2,3,4].all fun n=>(allBits n).all (codeOk n))=true:=by decide +kernel
def ltOk (a b:List Int):Bool:=!(decide (cmpM a b<0)) || decide (codeN a<codeN b)
theorem lts0:([0,1,2,3,4].all fun n=>(allBits n).all fun a=>(allBits n).all fun b=>ltOk a b)=true:=by decide +kernel
theorem mem5 {n:Nat} (h:n<5):n∈[0,1,2,3,4]:=by simp;omega
theorem code_eq {l:List Int} (h:Bits l) (hl:l.length<5):spec_l01Code 2 l=some (codeN l)∧0≤codeN l∧codeN l<((2 ^ l.length:Nat):Int):=by
  have h1:=List.all_eq_true.1 codes0 l.length (mem5 hl);have h2:=List.all_eq_true.1 h1 l (mem_allBits l h)
  unfold codeOk at h2
  simp only[Bool.and_eq_true,decide_eq_true_eq] at h2;exact⟨h2.1,h2.2.1,h2.2.2⟩
theorem code_lt {a b:List Int} (ha:Bits a) (hb:Bits b) (hl:a.length=b.length) (h5:a.length<5) (h:cmpM a b<0):codeN a<codeN b:=by
  have h1:=List.all_eq_true.1 lts0 a.length (mem5 h5);have h2:=List.all_eq_true.1 h1 a (mem_allBits a ha);have h3:=List.all_eq_true.1 h2 b (by rw[hl];exact mem_allBits b hb)
  unfold ltOk at h3
  simpa [h] using h3
theorem indexOf_eq:impl_indexOf=spec_l01Code:=rfl
def setOf (l:List (List Int)) (s:List Bool):List Bool:=l.foldl (fun s t=>s.set (codeN t).toNat true) s
theorem setOf_length:∀ (l:List (List Int)) (s:List Bool),(setOf l s).length=s.length
  | [],_=>rfl
  | t::l,s=>by
    show(setOf l (s.set (codeN t).toNat true)).length=s.length
    rw[setOf_length l];simp
theorem setOf_keep:∀ (l:List (List Int)) (s:List Bool) (v:Nat),s[v]?=some true→(setOf l s)[v]?=some true
  | [],_,_,h=>h
  | t::l,s,v,h=>by
    refine setOf_keep l _ v ?_;rw[List.getElem?_set]
    split
    · have:(codeN t).toNat<s.length:=by have:=(List.getElem?_eq_some_iff.1 h).1;omega
      simp_all
    · exact h
theorem setOf_mem:∀ (l:List (List Int)) (s:List Bool) (t:List Int),t∈l→(codeN t).toNat<s.length→(setOf l s)[(codeN t).toNat]?=some true
  | [],_,_,h,_=>by cases h
  | u::l,s,t,h,hl=>by
    rcases List.mem_cons.1 h with rfl | h
    · exact setOf_keep l _ _ (by rw[List.getElem?_set,if_pos rfl,if_pos hl])
    · exact setOf_mem l _ t h (by simpa using hl)
theorem set_loop {ρ:Type} {n:Nat} (hn:n<5):∀ (l:List (List Int)) (k:Nat) (s:List Bool),(∀ t∈l,Bits t∧t.length=n)→s.length=2 ^ n →
    qK (σ:=(List Bool)) (ρ:=ρ) (fun(k141:Nat) (x143:(List Int)) (s129:(List Bool))=>
      xX (spec_l01Code 2 x143) fun z172=>
      xX (ix s129 z172) fun z174=>
      some (.go (s129.set (z172).toNat true))) l k s=some (.nx (setOf l s))
  | [],_,_,_,_=>rfl
  | t::l,k,s,h,hs=>by
    obtain⟨h1,h2⟩:=h t (by simp);obtain⟨c1,c2,c3⟩:=code_eq h1 (by omega);rw[h2] at c3
    have hlt:(codeN t).toNat<s.length:=by rw[hs];omega
    have hx:ix s (codeN t)=some (s[(codeN t).toNat]'hlt):=ix_of c2 (List.getElem?_eq_getElem hlt);rw[forL_go (s':=s.set (codeN t).toNat true) (by simp only[c1,bnd_s,hx])];exact set_loop hn l (k+1) _ (fun u hu=>h u (by simp [hu])) (by simpa using hs)
theorem rising {T:Nat} (f:Nat→Nat) (h:∀ j,j+1<T→f j<f (j+1)) (hT:∀ j,j<T→f j<T):∀ j,j<T→f j=j:=by
  have h1:∀ j,j<T→j≤f j:=by
    intro j
    induction j with
    | zero=>intro _;omega
    | succ j ih=>intro hj;have:=ih (by omega);have:=h j hj;omega
  have h2:∀ d j,j+d+1=T→f j+d<T:=by
    intro d
    induction d with
    | zero=>intro j hj;exact hT j (by omega)
    | succ d ih=>intro j hj;have:=ih (j+1) (by omega);have:=h j (by omega);omega
  intro j hj;have:=h1 j hj;have:=h2 (T - 1 - j) j (by omega)
  omega
theorem dig_loop {ρ:Type} {T:Int} (hT:1≤T):∀ (i:Nat) (r:Int) (d:List Int) (N:Nat),i≤d.length→i≤1000→0≤r→r≤9223372036854775807→(∀ a∈d,0≤a∧a<T)→i+1≤N →
    ∃ r' j d',whl (σ:=Int×Int×(List Int)) (ρ:=ρ) (fun(s:Int×Int×(List Int))=>
      match s with
      | (s64,s66,s68)=>
        if (decide (0≤s66)) then
          xX (rm s64 T) fun z89=>
          xX (ix s68 s66) fun z91=>
          xX (dv s64 T) fun z102=>
          xX (ck (s66 - 1)) fun z104=>
          some (.go (z102,z104,(s68.set (s66).toNat z89)))
        else
          some (.brk (s64,s66,s68))) N (r,(i:Int) - 1,d)=some (.nx (r',j,d'))∧d'.length=d.length∧∀ a∈d',0≤a∧a<T
  | 0,r,d,N,_,_,h0,h1,hd,hN=>by
    obtain⟨M,rfl⟩:∃ M,N=M+1:=⟨N - 1,by omega⟩;refine⟨r,((0:Nat):Int) - 1,d,whl_brk ?_,rfl,hd⟩
    simp
  | i+1,r,d,N,hi,hi2,h0,h1,hd,hN=>by
    obtain⟨M,rfl⟩:∃ M,N=M+1:=⟨N - 1,by omega⟩
    have e1:((i+1:Nat):Int) - 1=(i:Int):=by omega
    have hx:d[i]?=some (d[i]'(by omega)):=List.getElem?_eq_getElem (by omega);have hm0:=Int.emod_nonneg r (show T≠0 by omega);have hm1:=Int.emod_lt_of_pos r (show 0<T by omega)
    have hr:rm r T=some (r % T):=by unfold rm;rw[if_neg (by omega),Int.tmod_eq_emod_of_nonneg h0]
    have hq0:=Int.ediv_nonneg h0 (show 0≤T by omega);have hq1:=Int.ediv_le_self T h0
    have hdv:dv r T=some (r / T):=by unfold dv;rw[if_neg (by omega),Int.tdiv_eq_ediv_of_nonneg h0];exact kH (by omega) (by omega)
    obtain⟨r',j,d',h2,h3,h4⟩:=dig_loop (ρ:=ρ) hT i (r / T) (d.set i (r % T)) M (by rw[List.length_set];omega) (by omega) hq0 (by omega) (fun a ha=>by
      rcases List.mem_or_eq_of_mem_set ha with h | rfl
      · exact hd a h
      · exact⟨hm0,hm1⟩) (by omega)
    refine⟨r',j,d',?_,by rw[h3,List.length_set],h4⟩;rw[e1]
    rw[whl_go (s':=(r / T,(i:Int) - 1,d.set i (r % T))) (by
      have hi0:(0:Int)≤(i:Int):=by omega
      simp only[hi0,decide_true,if_true,hr,bnd_s,oV hx,hdv,kH (x:=(i:Int) - 1) (by omega) (by omega),Int.toNat_natCast])]
    exact h2
theorem digits_any {T k:Int} {m N:Nat} (hT:1≤T) (hm:m≤1000) (h0:0≤k) (h1:k≤9223372036854775807) (hN:m+1≤N):∃ d,zF N T (m:Int) k=some d∧d.length=m∧∀ a∈d,0≤a∧a<T:=by
  unfold zF
  have hz:mkz (0:Int) (m:Int)=some (List.replicate m 0):=by unfold mkz;rw[if_pos ⟨by omega,by omega⟩];simp
  rw[hz,bnd_s,kH (x:=(m:Int) - 1) (by omega) (by omega),bnd_s];obtain⟨r',j,d',h2,h3,h4⟩:=dig_loop (ρ:=List Int) hT m k (List.replicate m 0) N (by simp) hm h0 h1 (fun a ha=>by have:=List.eq_of_mem_replicate ha;omega) hN;rw[h2];exact⟨d',rfl,by rw[h3,List.length_replicate],h4⟩
theorem forL_mapK {α β ρ:Type} (d:List α) (g:α→β) {b:Nat→α→List β→Option (Ctl (List β) ρ)}
    (h1:∀ (i:Nat) x s,d[i]?=some x→s.length=i→b i x s=some (.go (s++[g x]))) :
    ∀ (r:List α) (i:Nat) (s:List β),d.drop i=r→s.length=i→qK b r i s=some (.nx (s++r.map g))
  | [],i,s,hr,hs=>by simp
  | t::r,i,s,hr,hs=>by
    have ht:d[i]?=some t:=by rw[← List.head?_drop,hr];rfl
    have hd:d.drop (i+1)=r:=by rw[← List.drop_drop,hr];rfl
    rw[forL_go (h1 i t s ht hs),forL_mapK d g h1 r (i+1) (s++[g t]) hd (by simp [hs])]
    simp
theorem pow_any {T:Int} {m N:Nat} (h0:0≤T) (h1:T≤1048576) (hm:1≤m∧m≤3) (hN:5≤N):∃ p,kU T (m:Int)=some p∧zD N T (m:Int)=some p∧0≤p∧p≤1152921504606846976∧(T=0→p=0):=by
  obtain⟨M,rfl⟩:∃ M,N=M+5:=⟨N - 5,by omega⟩;have b2:0≤T*T∧T*T≤1048576*1048576:=⟨Int.mul_nonneg h0 h0,Int.mul_le_mul h1 h1 h0 (by omega)⟩;have b3:0≤T*T*T∧T*T*T≤1048576*1048576*1048576:=⟨Int.mul_nonneg b2.1 h0,Int.mul_le_mul b2.2 h1 h0 (by omega)⟩;have c1:ck T=some T:=kH (by omega) (by omega);have c2:ck (T*T)=some (T*T):=kH (by omega) (by omega);have c3:ck (T*T*T)=some (T*T*T):=kH (by omega) (by omega)
  have k1:ck 0=some 0:=by decide
  have k2:ck 1=some 1:=by decide
  have k3:ck 2=some 2:=by decide
  match m,hm with
  | 1,_=>exact⟨T,by simp [kU,vQ,c1],by simp [zD,whl,c1,k1],by omega,by omega,fun h=>h⟩
  | 2,_=>exact⟨T*T,by simp [kU,vQ,c1,c2],by simp [zD,whl,c1,c2,k1,k2],by omega,by omega,fun h=>by rw[h];rfl⟩
  | 3,_=>exact⟨T*T*T,by simp [kU,vQ,c1,c2,c3],by simp [zD,whl,c1,c2,c3,k1,k2,k3],by omega,by omega,fun h=>by rw[h];rfl⟩
theorem code_loop {ρ:Type}:∀ (l:List Int) (k:Nat) (s:Int),Bits l→0≤s→(s+1)*((2 ^ l.length:Nat):Int)≤1000 →
    qK (σ:=Int) (ρ:=ρ) (fun(k34:Nat) (x36:Int) (s30:Int)=>
      xX (ck (s30*2)) fun z41=>
      xX (ck (z41+x36)) fun z48=>
      some (.go z48)) l k s=some (.nx (l.foldl (fun a x=>a*2+x) s))
  | [],_,_,_,_,_=>rfl
  | x::l,k,s,hb,h0,h1=>by
    have hx:=hb x (by simp)
    have hP:(1:Int)≤((2 ^ l.length:Nat):Int):=by have:=Nat.one_le_two_pow (n:=l.length);omega
    have hPe:((2 ^ (x::l).length:Nat):Int)=((2 ^ l.length:Nat):Int)*2:=by rw[List.length_cons,Nat.pow_succ];push_cast;rfl
    rw[hPe] at h1;obtain⟨P,hPd⟩:∃ P,P=((2 ^ l.length:Nat):Int):=⟨_,rfl⟩;rw[← hPd] at hP h1
    clear hPe
    have h2:(s+1)*2≤(s+1)*(P*2):=Int.mul_le_mul_of_nonneg_left (by omega) (by omega)
    have h3:(s*2+x+1)*P≤(s+1)*(P*2):=by
      have:(s*2+x+1)*P≤((s+1)*2)*P:=Int.mul_le_mul_of_nonneg_right (by omega) (by omega);rw[Int.mul_assoc,Int.mul_comm 2 P] at this;exact this
    rw[forL_go (s':=s*2+x) (by simp only[kH (x:=s*2) (by omega) (by omega),bnd_s,kH (x:=s*2+x) (by omega) (by omega)])];exact code_loop l (k+1) (s*2+x) (fun a ha=>hb a (by simp [ha])) (by omega) (by rw[← hPd];omega)
theorem forL_mapped {α β σ ρ:Type} (g:α→β) {b:Nat→α→σ→Option (Ctl σ ρ)} {b':Nat→β→σ→Option (Ctl σ ρ)}:∀ (l:List α) (i:Nat) (s:σ),(∀ i x s,x∈l→b i x s=b' i (g x) s)→qK b l i s=qK b' (l.map g) i s
  | [],_,_,_=>rfl
  | x::l,i,s,h=>by
    have ih:=fun s'=>forL_mapped g l (i+1) s' (fun i y s hy=>h i y s (by simp [hy]));simp only[List.map_cons,qK,h i x s (by simp)]
    cases b' i (g x) s with
    | none=>rfl
    | some c=>cases c<;>simp only[ih]
theorem forI_map {β ρ:Type} {n:Nat} (g:Nat→β) {b:Nat→List β→Option (Ctl (List β) ρ)}
    (h1:∀ (i:Nat) s,i<n→s.length=i→b i s=some (.go (s++[g i]))) :
    ∀ (m k:Nat) (s:List β),s.length=k→k+m≤n→vQ b m k s=some (.nx (s++(List.range' k m).map g))
  | 0,k,s,hs,_=>by simp [vQ]
  | m+1,k,s,hs,hk=>by
    rw[forI_go (h1 k s (by omega) hs),forI_map g h1 m (k+1) (s++[g k]) (by simp [hs]) (by omega)]
    simp [List.range'_succ]
theorem forL_fill {α β ρ:Type} {n:Nat} (g:Nat→β) {b:Nat→α→List β→Option (Ctl (List β) ρ)}
    (h1:∀ (i:Nat) x s,i<n→s.length=n→b i x s=some (.go (s.set i (g i)))) :
    ∀ (l:List α) (k:Nat) (s:List β),s.length=n→k+l.length≤n→∃ s',qK b l k s=some (.nx s')∧s'.length=n∧∀ j,s'[j]?=if k≤j∧j<k+l.length then some (g j) else s[j]?
  | [],k,s,hs,_=>⟨s,rfl,hs,fun j=>by rw[if_neg (by simp)]⟩
  | x::l,k,s,hs,hk=>by
    rw[List.length_cons] at hk;obtain⟨s',h2,h3,h4⟩:=forL_fill g h1 l (k+1) (s.set k (g k)) (by simpa using hs) (by omega);refine⟨s',by rw[forL_go (h1 k x s (by omega) hs)];exact h2,h3,fun j=>?_⟩;rw[h4 j,List.length_cons,List.getElem?_set]
    by_cases hj:k=j
    · subst hj
      rw[if_neg (by omega),if_pos rfl,if_pos (by omega),if_pos (by omega)]
    · rw[if_neg hj]
      by_cases hj2:k+1≤j∧j<k+1+l.length
      · rw[if_pos hj2,if_pos (by omega)]
      · rw[if_neg hj2,if_neg (by omega)]
def col (sel:List (List Int)) (k:Nat):List Int:=sel.map fun t=>t.getD k 0
def valO (o:Op) (sel:List (List Int)) (k:Nat):Int:=o.table.getD (codeN (col sel k)).toNat 0
def mkR (o:Op) (sel:List (List Int)) (n:Nat):List Int:=(List.range' 0 n).map (valO o sel)
structure OpOk (o:Op) (m:Nat):Prop where
  ar:o.arity=m
  m1:1≤m
  m3:m≤3
  tl:o.table.length=2 ^ m
  tb:Bits o.table
theorem col_bits {sel:List (List Int)} {n:Nat} (h:∀ t∈sel,Bits t∧t.length=n) (k:Nat):Bits (col sel k):=by
  intro a ha;obtain⟨t,ht,rfl⟩:=List.mem_map.1 ha;have:=bit (h t ht).1 k
  omega
theorem val_at {o:Op} {m:Nat} (ho:OpOk o m) {sel:List (List Int)} {n:Nat} (h:∀ t∈sel,Bits t∧t.length=n) (hm:sel.length=m) (k:Nat):spec_l01Code 2 (col sel k)=some (codeN (col sel k))∧ix o.table (codeN (col sel k))=some (valO o sel k)∧(0≤valO o sel k∧valO o sel k≤1):=by
  have hl:(col sel k).length=m:=by unfold col;rw[List.length_map,hm]
  obtain⟨c1,c2,c3⟩:=code_eq (col_bits h k) (by have:=ho.m3;omega);rw[hl] at c3
  have hlt:(codeN (col sel k)).toNat<o.table.length:=by rw[ho.tl];omega
  have hx:o.table[(codeN (col sel k)).toNat]?=some (o.table[(codeN (col sel k)).toNat]'hlt):=List.getElem?_eq_getElem hlt;have hv:valO o sel k=o.table[(codeN (col sel k)).toNat]'hlt:=getD_of' hx;refine⟨c1,?_,?_⟩
  · rw[hv];exact ix_of c2 hx
  · rw[hv];exact ho.tb _ (List.getElem_mem hlt)
theorem make_eq {o:Op} {m n:Nat} (ho:OpOk o m) (hn:n≤4) {sel:List (List Int)} (h:∀ t∈sel,Bits t∧t.length=n) (hm:sel.length=m):spec_l02Make 2 o sel=some (mkR o sel n):=by
  have hm1:=ho.m1;have hm3:=ho.m3;have hx:sel[0]?=some (sel[0]'(by omega)):=List.getElem?_eq_getElem (by omega);have hx2:=(h _ (List.mem_of_getElem? hx)).2;generalize sel[0]'(by omega)=t0 at hx hx2
  unfold spec_l02Make
  rw[show ix sel 0=some t0 from oV hx,bnd_s,hx2,show((n:Nat):Int).toNat=n from by omega]
  rw[forI_map (n:=n) (valO o sel) (fun i s hi hs=>by
    rw[forL_mapK sel (fun t=>t.getD i 0) (fun j x s2 hj hs2=>by
      have hxt:=h x (List.mem_of_getElem? hj);have hjl:=(List.getElem?_eq_some_iff.1 hj).1;have hxi:x[i]?=some (x[i]'(by omega)):=List.getElem?_eq_getElem (by omega);generalize x[i]'(by omega)=y at hxi
      simp only[oV hxi,bnd_s,ap_eq (l:=s2) (m:=[y]) (by simp;omega),getD_of' hxi]) sel 0 [] rfl rfl]
    obtain⟨v1,v2,v3⟩:=val_at ho h hm i
    unfold col at v1 v2
    simp only[thn_nx,List.nil_append]
    unfold spec_l02Value
    simp only[v1,bnd_s,v2,ap_eq (l:=s) (m:=[valO o sel i]) (by simp;omega)]) n 0 [] rfl (by omega)]
  rfl
theorem made_eq {o:Op} {m n:Nat} (ho:OpOk o m) (hn:n≤4) {sel:List (List Int)} (h:∀ t∈sel,Bits t∧t.length=n) (hm:sel.length=m):impl_made 2 o sel=some (mkR o sel n):=by
  have hm1:=ho.m1;have hm3:=ho.m3;have hx:sel[0]?=some (sel[0]'(by omega)):=List.getElem?_eq_getElem (by omega);have hx2:=(h _ (List.mem_of_getElem? hx)).2;generalize sel[0]'(by omega)=t0 at hx hx2
  have hz:mkz (0:Int) (n:Int)=some (List.replicate n 0):=by unfold mkz;rw[if_pos ⟨by omega,by omega⟩];simp
  unfold impl_made
  rw[show ix sel 0=some t0 from oV hx,bnd_s,hx2,hz,bnd_s]
  obtain⟨s',h2,h3,h4⟩:=forL_fill (α:=Int) (ρ:=List Int) (n:=n) (valO o sel) (b:=fun(k217:Nat) (x219:Int) (s205:(List Int))=>
      vO (σ:=Int) (
        qK (σ:=Int) (ρ:=(Ctl ((List Int)) (List Int))) (fun(k255:Nat) (x257:(List Int)) (s251:Int)=>
          xX (ck (s251*2)) fun z269=>
          xX (ix x257 (k217:Int)) fun z271=>
          xX (ck (z269+z271)) fun z278=>
          some (.go z278)) sel 0 0) fun s253=>
      xX (ix o.table s253) fun z280=>
      xX (ix s205 (k217:Int)) fun z287=>
      some (.go (s205.set ((k217:Int)).toNat z280))) (fun i x s hi hs=>by
    obtain⟨v1,v2,v3⟩:=val_at ho h hm i
    have hcl:(col sel i).length≤3:=by unfold col;rw[List.length_map];omega
    have hp:((0:Int)+1)*((2 ^ (col sel i).length:Nat):Int)≤1000:=by
      have:∀ k:Nat,k≤3→((0:Int)+1)*((2 ^ k:Nat):Int)≤1000:=by
        intro k hk
        match k,hk with
        | 0,_=>decide
        | 1,_=>decide
        | 2,_=>decide
        | 3,_=>decide
      exact this _ hcl
    have hsi:s[i]?=some (s[i]'(by omega)):=List.getElem?_eq_getElem (by omega);generalize s[i]'(by omega)=y at hsi
    rw[forL_mapped (fun t=>t.getD i 0) (b':=fun(k34:Nat) (x36:Int) (s30:Int)=>
      xX (ck (s30*2)) fun z41=>
      xX (ck (z41+x36)) fun z48=>
      some (.go z48)) sel 0 0 (fun j t s2 ht=>by
        have hxt:=h t ht;have hxi:t[i]?=some (t[i]'(by omega)):=List.getElem?_eq_getElem (by omega);generalize t[i]'(by omega)=y at hxi
        simp only[oV hxi,bnd_s,getD_of' hxi])]
    have hcl2:=code_loop (ρ:=(Ctl ((List Int)) (List Int))) (col sel i) 0 0 (col_bits h i) (by omega) hp
    unfold col at hcl2
    rw[hcl2];have v2':ix o.table (List.foldl (fun a x=>a*2+x) 0 (List.map (fun t=>t.getD i 0) sel))=some (valO o sel i):=v2
    simp only[thn_nx,v2',bnd_s,oV hsi,Int.toNat_natCast]) (List.replicate n 0) 0 (List.replicate n 0) (by simp) (by simp)
  rw[h2,thn_nx]
  congr 1
  apply List.ext_getElem?
  intro j;rw[h4 j]
  unfold mkR
  by_cases hj:j<n
  · rw[if_pos (by simp;omega),List.getElem?_map,List.getElem?_range' hj]
    simp
  · rw[if_neg (by simp;omega),List.getElem?_eq_none (by simp;omega),List.getElem?_eq_none (by simp;omega)]
theorem forI_rel {ρ ρ':Type} {f:Nat→Unit→Option (Ctl Unit ρ)} {g:Nat→Unit→Option (Ctl Unit ρ')} (Q:ρ→Prop) (Q':ρ'→Prop):∀ {m k:Nat},(∀ j,k≤j→j<k+m→(f j ()=some (.go ())∧g j ()=some (.go ()))∨∃ r r',f j ()=some (.ret r)∧g j ()=some (.ret r')∧Q r∧Q' r') →
    (vQ f m k ()=some (.nx ())∧vQ g m k ()=some (.nx ()))∨∃ r r',vQ f m k ()=some (.ret r)∧vQ g m k ()=some (.ret r')∧Q r∧Q' r'
  | 0,_,_=>.inl ⟨rfl,rfl⟩
  | m+1,k,h=>by
    rcases h k (Nat.le_refl _) (by omega) with ⟨h1,h2⟩ | ⟨r,r',h1,h2,h3,h4⟩
    · rw[forI_go h1,forI_go h2]
      exact forI_rel Q Q' (fun j hj hj2=>h j (by omega) (by omega))
    · exact .inr ⟨r,r',forI_rt h1,forI_rt h2,h3,h4⟩
theorem forI_allgo {ρ:Type} {f:Nat→Unit→Option (Ctl Unit ρ)}:∀ {m k:Nat},(∀ j,k≤j→j<k+m→f j ()=some (.go ()))→vQ f m k ()=some (.nx ())
  | 0,_,_=>rfl
  | m+1,k,h=>by
    rw[forI_go (h k (Nat.le_refl _) (by omega))];exact forI_allgo (fun j hj hj2=>h j (by omega) (by omega))
def FB (N : Nat) (x1 : Op) (x2 : Rel) (S : List Bool) (k551 : Nat) (s : Unit) : Option (Ctl Unit ((List (List Int)) × (List Int) × Bool)) :=
      match s with
      | _=>
        xX (spec_l01Digits N (x2.tuples.length:Int) x1.arity (k551:Int)) fun z562=>
        vO (σ:=(List (List Int))) (
          qK (σ:=(List (List Int))) (ρ:=(Ctl (Unit) ((List (List Int))×(List Int)×Bool))) (fun(k440:Nat) (x442:Int) (s434:(List (List Int)))=>
            xX (ix x2.tuples x442) fun z454=>
            xX (ap s434 ([z454])) fun z462=>
            some (.go z462)) z562 0 []) fun s733=>
        xX (spec_l02Make 2 x1 s733) fun z803=>
        xX (spec_l01Code 2 z803) fun z817=>
        xX (ix S z817) fun z819=>
        if (!z819) then
          vO (σ:=(List (List Int))) (
            qK (σ:=(List (List Int))) (ρ:=(Ctl (Unit) ((List (List Int))×(List Int)×Bool))) (fun(k546:Nat) (x548:(List Int)) (s540:(List (List Int)))=>
              xX (spec_l00Own x548) fun z557=>
              xX (ap s540 ([z557])) fun z564=>
              some (.go z564)) s733 0 []) fun s988=>
          some (.ret (s988,z803,true))
        else
          some (.go ())
def GB (N : Nat) (x1 : Op) (x2 : Rel) (S : List Bool) (k434 : Nat) (s : Unit) : Option (Ctl Unit ((List (List Int)) × (List Int))) :=
        match s with
        | _=>
          xX (zF N (x2.tuples.length:Int) x1.arity (k434:Int)) fun z450=>
          vO (σ:=(List (List Int))) (
            qK (σ:=(List (List Int))) (ρ:=(Ctl (Unit) ((List (List Int))×(List Int)))) (fun(k622:Nat) (x624:Int) (s596:(List (List Int)))=>
              xX (ix x2.tuples x624) fun z634=>
              xX (ap s596 ([z634])) fun z660=>
              some (.go z660)) z450 0 []) fun s610=>
          xX (impl_made 2 (Op.mk x1.arity x1.table) s610) fun z677=>
          xX (impl_indexOf 2 z677) fun z694=>
          xX (ix S z694) fun z696=>
          if (!z696) then
            xX (nev z677) fun z704=>
            some (.ret (s610,z677))
          else
            some (.go ())
theorem mkR_ok {o:Op} {m n:Nat} (ho:OpOk o m) {sel:List (List Int)} (h:∀ t∈sel,Bits t∧t.length=n) (hm:sel.length=m):Bits (mkR o sel n)∧(mkR o sel n).length=n:=by
  refine⟨fun a ha=>?_,by unfold mkR;simp⟩
  unfold mkR at ha
  obtain⟨k,_,rfl⟩:=List.mem_map.1 ha;exact(val_at ho h hm k).2.2
theorem round {N:Nat} {o:Op} {x:Rel} {m n k:Nat} {S:List Bool} (hN:10≤N) (ho:OpOk o m) (hn:1≤n∧n≤4) (hT:∀ t∈x.tuples,Bits t∧t.length=n) (h1:1≤x.tuples.length) (hk:(k:Int)≤9223372036854775807) (hS:S.length=2 ^ n) :
    ∃ (R:List Int) (b:Bool) (e sel:List (List Int)),FB N o x S k ()=some (if b then .go () else .ret (e,R,true))∧GB N o x S k ()=some (if b then .go () else .ret (sel,R))∧R≠[]∧0≤codeN R∧codeN R<((2 ^ n:Nat):Int)∧S[(codeN R).toNat]?=some b:=by
  have hm1:=ho.m1;have hm3:=ho.m3;obtain⟨d,d1,d2,d3⟩:=digits_any (T:=(x.tuples.length:Int)) (k:=(k:Int)) (m:=m) (N:=N) (by omega) (by omega) (by omega) hk (by omega)
  let sel:=d.map fun v=>x.tuples.getD v.toNat []
  have hat:∀ v∈d,ix x.tuples v=some (x.tuples.getD v.toNat []):=fun v hv=>by
    have:=d3 v hv
    have hlt:v.toNat<x.tuples.length:=by omega
    have he:x.tuples[v.toNat]?=some (x.tuples[v.toNat]'hlt):=List.getElem?_eq_getElem hlt;rw[List.getD_eq_getElem?_getD,he];exact ix_of this.1 he
  have hsel:∀ t∈sel,Bits t∧t.length=n:=fun t ht=>by
    obtain⟨v,hv,rfl⟩:=List.mem_map.1 ht;have:=d3 v hv
    have hlt:v.toNat<x.tuples.length:=by omega
    have he:x.tuples[v.toNat]?=some (x.tuples[v.toNat]'hlt):=List.getElem?_eq_getElem hlt;rw[List.getD_eq_getElem?_getD,he];exact hT _ (List.getElem_mem hlt)
  have hsl:sel.length=m:=by show(d.map _).length=m;rw[List.length_map,d2]
  obtain⟨r1,r2⟩:=mkR_ok ho hsel hsl;obtain⟨c1,c2,c3⟩:=code_eq r1 (by omega);rw[r2] at c3
  have hlt:(codeN (mkR o sel n)).toNat<S.length:=by rw[hS];omega
  have hx:S[(codeN (mkR o sel n)).toNat]?=some (S[(codeN (mkR o sel n)).toNat]'hlt):=List.getElem?_eq_getElem hlt;generalize S[(codeN (mkR o sel n)).toNat]'hlt=b at hx
  have hne:mkR o sel n≠[]:=fun h=>by rw[h] at r2;simp at r2;omega
  have e1 := forL_mapK (ρ := (Ctl (Unit) ((List (List Int)) × (List Int) × Bool))) d (fun v => x.tuples.getD v.toNat []) (b := fun (k440 : Nat) (x442 : Int) (s434 : (List (List Int))) =>
            xX (ix x.tuples x442) fun z454=>
            xX (ap s434 ([z454])) fun z462=>
            some (.go z462))
    (fun i v s hi hs=>by
      have hil:=(List.getElem?_eq_some_iff.1 hi).1
      simp only[bnd_s,hat v (List.mem_of_getElem? hi),ap_eq (l:=s) (m:=[x.tuples.getD v.toNat []]) (by simp;omega)]) d 0 [] rfl rfl
  have e2 := forL_mapK (ρ := (Ctl (Unit) ((List (List Int)) × (List Int) × Bool))) sel (fun t => t) (b := fun (k546 : Nat) (x548 : (List Int)) (s540 : (List (List Int))) =>
              xX (spec_l00Own x548) fun z557=>
              xX (ap s540 ([z557])) fun z564=>
              some (.go z564))
    (fun i t s hi hs=>by
      have hil:=(List.getElem?_eq_some_iff.1 hi).1;have ht:=hsel t (List.mem_of_getElem? hi)
      have how:spec_l00Own t=some t:=by unfold spec_l00Own;rw[ap_eq (by simp;omega)];rfl
      simp only[bnd_s,how,ap_eq (l:=s) (m:=[t]) (by simp;omega)]) sel 0 [] rfl rfl
  refine⟨mkR o sel n,b,[]++sel.map (fun t=>t),sel,?_,?_,hne,c2,c3,hx⟩
  · unfold FB
    simp only[digits_eq,ho.ar,d1,bnd_s];rw[e1];simp only[thn_nx];rw[show[]++List.map (fun v=>x.tuples.getD v.toNat []) d=sel from List.nil_append _];simp only[make_eq ho hn.2 hsel hsl,bnd_s,c1,ix_of c2 hx]
    cases b with
    | true=>rfl
    | false=>
      simp only[Bool.not_false,if_true];rw[e2]
      rfl
  · unfold GB
    simp only[ho.ar,d1,bnd_s]
    rw[forL_mapK d (fun v=>x.tuples.getD v.toNat []) (fun i v s hi hs=>by
      have hil:=(List.getElem?_eq_some_iff.1 hi).1
      simp only[hat v (List.mem_of_getElem? hi),bnd_s,ap_eq (l:=s) (m:=[x.tuples.getD v.toNat []]) (by simp;omega)]) d 0 [] rfl rfl]
    simp only[thn_nx];rw[show[]++List.map (fun v=>x.tuples.getD v.toNat []) d=sel from List.nil_append _];rw[show Op.mk (m:Int) o.table=o by rw[← ho.ar]];simp only[made_eq ho hn.2 hsel hsl,bnd_s,indexOf_eq,c1,ix_of c2 hx]
    cases b with
    | true=>rfl
    | false=>
      have hnv:nev (mkR o sel n)=some ():=by
        cases h:mkR o sel n with
        | nil=>exact(hne h).elim
        | cons a l=>rfl
      simp only[Bool.not_false,if_true,hnv,bnd_s]
      rfl
theorem keeps_eq {N:Nat} {o:Op} {x:Rel} {m n:Nat} (hN:10≤N) (ho:OpOk o m) (har:x.arity=n) (hn:1≤n∧n≤4) (hT:∀ t∈x.tuples,Bits t∧t.length=n) (hlen:x.tuples.length≤1048576)
    (hs:∀ j t u,x.tuples[j]?=some t→x.tuples[j+1]?=some u→cmpM t u<0):∃ b,spec_l02Keeps N 2 o x=some b∧impl_keeps N 2 o x=some b:=by
  obtain⟨n',rfl⟩:∃ n',n=n'+1:=⟨n - 1,by omega⟩;have hm1:=ho.m1;have hm3:=ho.m3;obtain⟨p1,p2⟩:=powers n' (N:=N) hN (by omega)
  have har':x.arity=(n':Int)+1:=by omega
  have h16:2 ^ (n'+1)≤16:=by
    have:∀ k:Nat,k<4→2 ^ (k+1)≤16:=by decide
    exact this n' (by omega)
  obtain⟨S,hSd⟩:∃ S,S=setOf x.tuples (List.replicate (2 ^ (n'+1)) false):=⟨_,rfl⟩
  have hSl:S.length=2 ^ (n'+1):=by rw[hSd,setOf_length,List.length_replicate]
  have hz:mkz (false:Bool) ((2 ^ (n'+1):Nat):Int)=some (List.replicate (2 ^ (n'+1)) false):=by
    unfold mkz
    rw[if_pos ⟨by omega,by omega⟩,Int.toNat_natCast]
  have hset:spec_l01SetOf N 2 x=some (2,(n':Int)+1,S):=by
    unfold spec_l01SetOf spec_l01Empty
    rw[har',p2,bnd_s,hz,bnd_s,bnd_s];rw[set_loop (n:=n'+1) (by omega) x.tuples 0 _ hT (by rw[List.length_replicate]),thn_nx,← hSd]
  obtain⟨p,q1,q2,q3,q4,q5⟩:=pow_any (T:=(x.tuples.length:Int)) (m:=m) (N:=N) (by omega) (by omega) ⟨hm1,hm3⟩ (by omega)
  have hF:spec_l02Breaks N 2 o x=vO (vQ (FB N o x S) p.toNat 0 ()) (fun _=>some ([],[],false)):=by
    unfold spec_l02Breaks
    rw[hset,bnd_s,show zD N (x.tuples.length:Int) o.arity=some p by rw[ho.ar];exact q2,bnd_s]
    rfl
  have hrd:∀ k,k<0+p.toNat→1≤x.tuples.length∧(k:Int)≤9223372036854775807:=fun k hk=>by
    refine⟨?_,by omega⟩
    rcases Nat.eq_zero_or_pos x.tuples.length with h | h
    · have:=q5 (by omega);omega
    · exact h
  by_cases hfull:(x.tuples.length:Int)=((2 ^ (n'+1):Nat):Int)
  · have hfull':x.tuples.length=2 ^ (n'+1):=by omega
    have hall:∀ v,v<2 ^ (n'+1)→S[v]?=some true:=by
      have hat:∀ j,j<2 ^ (n'+1)→x.tuples[j]?=some (x.tuples.getD j []):=fun j hj=>by
        have:x.tuples[j]?=some (x.tuples[j]'(by omega)):=List.getElem?_eq_getElem (by omega);rw[List.getD_eq_getElem?_getD,this];rfl
      have hbd:∀ j,j<2 ^ (n'+1)→0≤codeN (x.tuples.getD j [])∧codeN (x.tuples.getD j [])<((2 ^ (n'+1):Nat):Int):=fun j hj=>by
        obtain⟨b1,b2⟩:=hT _ (List.mem_of_getElem? (hat j hj));have:=code_eq b1 (by omega);rw[b2] at this;exact this.2
      have hr:=rising (T:=2 ^ (n'+1)) (fun j=>(codeN (x.tuples.getD j [])).toNat) (fun j hj=>by
        obtain⟨b1,b2⟩:=hT _ (List.mem_of_getElem? (hat j (by omega)));obtain⟨d1,d2⟩:=hT _ (List.mem_of_getElem? (hat (j+1) hj));have h1:=code_lt b1 d1 (by omega) (by omega) (hs j _ _ (hat j (by omega)) (hat (j+1) hj));have h2:=hbd j (by omega);have h3:=hbd (j+1) hj
        show(codeN (x.tuples.getD j [])).toNat<(codeN (x.tuples.getD (j+1) [])).toNat
        omega) (fun j hj=>by
        have:=hbd j hj
        show(codeN (x.tuples.getD j [])).toNat<_
        omega)
      intro v hv
      have h1:=setOf_mem x.tuples (List.replicate (2 ^ (n'+1)) false) _ (List.mem_of_getElem? (hat v hv)) (by
        rw[List.length_replicate];have:=hbd v hv
        omega)
      rw[show(codeN (x.tuples.getD v [])).toNat=v from hr v hv,← hSd] at h1;exact h1
    have hgo:vQ (FB N o x S) p.toNat 0 ()=some (.nx ()):=forI_allgo (fun k hk0 hk=>by
      obtain⟨r1,r2⟩:=hrd k hk;obtain⟨R,b,e,sel,e1,e2,e3,e4,e5,e6⟩:=round (N:=N) (k:=k) hN ho hn hT r1 r2 hSl;rw[hall _ (by omega)] at e6;rw[e1,← Option.some.inj e6]
      rfl)
    refine⟨true,?_,?_⟩
    · unfold spec_l02Keeps
      rw[hF,hgo]
      rfl
    · unfold impl_keeps impl_broken
      rw[show(Rel.mk x.arity x.tuples)=x from rfl,har',p1,bnd_s];rw[if_pos (by simpa using hfull)]
      rfl
  · have hG:impl_broken N 2 o x=vO (vQ (GB N o x S) p.toNat 0 ()) (fun _=>some ([],[])):=by
      unfold impl_broken
      rw[har',p1,bnd_s,if_neg (by simpa using hfull),hz,bnd_s];rw[indexOf_eq,set_loop (n:=n'+1) (by omega) x.tuples 0 _ hT (by rw[List.length_replicate]),thn_nx,← hSd];rw[show kU (x.tuples.length:Int) o.arity=some p by rw[ho.ar];exact q1,bnd_s]
      rfl
    have hG':impl_broken N 2 (Op.mk o.arity o.table) (Rel.mk x.arity x.tuples)=vO (vQ (GB N o x S) p.toNat 0 ()) (fun _=>some ([],[])):=hG
    rcases forI_rel (f:=FB N o x S) (g:=GB N o x S) (m:=p.toNat) (k:=0) (fun r=>r.2.2=true) (fun r=>r.2≠[]) (fun k hk0 hk=>by
      obtain⟨r1,r2⟩:=hrd k hk;obtain⟨R,b,e,sel,e1,e2,e3,e4,e5,e6⟩:=round (N:=N) (k:=k) hN ho hn hT r1 r2 hSl
      cases b with
      | true=>exact .inl ⟨e1,e2⟩
      | false=>exact .inr ⟨_,_,e1,e2,rfl,e3⟩) with ⟨h1,h2⟩ | ⟨r,r',h1,h2,h3,h4⟩
    · refine⟨true,?_,?_⟩
      · unfold spec_l02Keeps;rw[hF,h1];rfl
      · unfold impl_keeps;rw[hG',h2];rfl
    · refine⟨false,?_,?_⟩
      · unfold spec_l02Keeps
        rw[hF,h1]
        show xX (some r) _=_
        simp [h3]
      · unfold impl_keeps
        rw[hG',h2]
        show xX (some r') _=_
        simp [h4]
def classTable (k:Int):List Int:=if k=1 then [0,0] else if k=2 then [1,1] else if k=3 then [0,0,0,1] else if k=4 then [0,1,1,1] else if k=5 then [0,0,0,1,0,1,1,1] else [0,1,1,0,1,0,0,1]
def classArity (k:Int):Int:=if k=1 then 1 else if k=2 then 1 else if k=3 then 2 else if k=4 then 2 else 3
def kC (k:Int):Op:=⟨classArity k,classTable k⟩
theorem class_kinds {k:Int} (h1:1≤k) (h6:k≤6):k=1∨k=2∨k=3∨k=4∨k=5∨k=6:=by omega
theorem classOp_ok {k:Int} (h1:1≤k) (h6:k≤6):spec_l09Op k=some (kC k)∧impl_classOp k=some (kC k)∧∃ m,OpOk (kC k) m:=by
  have hi:impl_classOp k=some (kC k):=by rcases class_kinds h1 h6 with rfl | rfl | rfl | rfl | rfl | rfl<;>rfl
  have hb:∀ l:List Int,(l.all fun a=>decide (0≤a) && decide (a≤1))=true→Bits l:=fun l h a ha=>by simpa using List.all_eq_true.1 h a ha
  rcases class_kinds h1 h6 with rfl | rfl | rfl | rfl | rfl | rfl
  · exact⟨rfl,hi,1,⟨rfl,by decide,by decide,rfl,hb _ (by decide)⟩⟩
  · exact⟨rfl,hi,1,⟨rfl,by decide,by decide,rfl,hb _ (by decide)⟩⟩
  · exact⟨rfl,hi,2,⟨rfl,by decide,by decide,rfl,hb _ (by decide)⟩⟩
  · exact⟨rfl,hi,2,⟨rfl,by decide,by decide,rfl,hb _ (by decide)⟩⟩
  · exact⟨rfl,hi,3,⟨rfl,by decide,by decide,rfl,hb _ (by decide)⟩⟩
  · exact⟨rfl,hi,3,⟨rfl,by decide,by decide,rfl,hb _ (by decide)⟩⟩
theorem relB_sorted {s:Int} {x:Rel} (hN:x.tuples.length≤1048576) (h:relB' s x=true):∀ j t u,x.tuples[j]?=some t→x.tuples[j+1]?=some u→cmpM t u<0:=by
  obtain⟨b,h1,h2,h3⟩:=relOkS s x hN
  have:relB' s x=b:=by unfold relB';rw[h2];rfl
  rw[this] at h;exact(h3 h).2.2.2
theorem keepsT {N:Nat} {x:Template} (hN:10≤N) (hx:smallT x) (hv:tempB x=true) (h2:x.size=2) {o:Op} {m:Nat} (ho:OpOk o m):∀ r∈x.rels,∃ b,spec_l02Keeps N x.size o r=some b∧impl_keeps N x.size o r=some b:=by
  intro r hr;obtain⟨_,_,h3⟩:=tempB_spec hx hv;obtain⟨h4,h5⟩:=h3 r hr;have ha:=okS_eq h4;obtain⟨n,hn⟩:∃ n:Nat,r.arity=n:=⟨r.arity.toNat,by omega⟩;rw[h2] at h5 ⊢
  have hrel:relB' 2 r=true:=by
    have:=hv
    unfold tempB at this
    simp only[Bool.and_eq_true,List.all_eq_true] at this;rw[h2] at this;exact this.2.2 r hr
  exact keeps_eq hN ho hn (by omega) (fun t ht=>by
    have h:=h5 t ht
    unfold areB at h
    rw[hn] at h;simp only[Bool.and_eq_true,List.all_eq_true,beq_iff_eq] at h;refine⟨fun a ha=>?_,by omega⟩;have:=h.2 a ha
    unfold okV at this
    simp at this
    omega) (hx r hr) (relB_sorted (hx r hr) hrel)
theorem is_eq {N:Nat} {x:Template} (hN:10≤N) (hx:smallT x) (hv:tempB x=true) (h2:x.size=2) {k:Int} (h1:1≤k) (h6:k≤6):∃ b,spec_l09Is N x k=some b∧impl_classOp k=some (kC k)∧impl_isKept N x (kC k)=some b:=by
  obtain⟨c1,c2,m,ho⟩:=classOp_ok h1 h6;have hk:=keepsT hN hx hv h2 ho;obtain⟨kp,hkp⟩:∃ kp:Rel→Bool,kp=fun r=>(impl_keeps N x.size (kC k) r).getD false:=⟨_,rfl⟩
  have hk1:∀ r∈x.rels,spec_l02Keeps N x.size (kC k) r=some (kp r)∧impl_keeps N x.size (kC k) r=some (kp r):=fun r hr=>by
    obtain⟨b,e1,e2⟩:=hk r hr
    have:kp r=b:=by rw[hkp];show(impl_keeps N x.size (kC k) r).getD false=b;rw[e2];rfl
    rw[this];exact⟨e1,e2⟩
  have hs:spec_l02First N x (kC k)=vO (some (outO (fnd (fun i r=>if !kp r then some (i:Int) else none) x.rels 0))) (fun _=>some (-1)):=by
    unfold spec_l02First
    rw[kR (fun i r=>if !kp r then some (i:Int) else none) (fun j r hj=>by
      simp only[(hk1 r (List.mem_of_getElem? hj)).1,bnd_s]
      by_cases hv:kp r=true
      · simp [hv,ctlO]
      · simp [hv,ctlO])]
  have hi:impl_firstBroken N x (kC k)=vO (some (outO (fnd (fun i r=>if !kp r then some (i:Int) else none) x.rels 0))) (fun _=>some (-1)):=by
    unfold impl_firstBroken zP
    rw[kR (fun i r=>if !kp r then some (i:Int) else none) (fun j r hj=>by
      have hb:impl_firstBroken_1 N r (Template.mk x.size x.rels) (Op.mk (kC k).arity (kC k).table)=some (!kp r):=by
        unfold impl_firstBroken_1
        rw[show impl_keeps N (Template.mk x.size x.rels).size (Op.mk (kC k).arity (kC k).table) (Rel.mk r.arity r.tuples)=some (kp r) from (hk1 r (List.mem_of_getElem? hj)).2]
        rfl
      simp only[hb,bnd_s]
      by_cases hv:kp r=true
      · simp [hv,ctlO]
      · simp [hv,ctlO])]
    cases fnd (fun i r=>if !kp r then some (i:Int) else none) x.rels 0<;>rfl
  obtain⟨z,hz⟩:∃ z:Int,vO (some (outO (fnd (fun i r=>if !kp r then some (i:Int) else none) x.rels 0))) (fun _=>some (-1))=some z:=by
    cases fnd (fun i r=>if !kp r then some (i:Int) else none) x.rels 0 with
    | none=>exact⟨-1,rfl⟩
    | some i=>exact⟨i,rfl⟩
  rw[hz] at hs hi;refine⟨decide (z<0),?_,c2,?_⟩
  · unfold spec_l09Is
    rw[c1,bnd_s,show Op.mk (kC k).arity (kC k).table=kC k from rfl,hs]
    rfl
  · unfold impl_isKept
    rw[show Op.mk (kC k).arity (kC k).table=kC k from rfl,show Template.mk x.size x.rels=x from rfl,hi]
    rfl
def fault (x:Template) (k:Int):Int:=if !tempB x then 1 else if x.size != 2 then 4 else if !(decide (1≤k) && decide (k≤6)) then 2 else 0
theorem l09Two_eq {x:Template} (hx:smallT x) (k:Int):spec_l09Two x k=some (fault x k):=by
  unfold spec_l09Two fault spec_l09Class
  rw[l01Template_eq x hx,l00In_eq];simp only[bnd_s]
  split
  · rfl
  · split
    · rfl
    · split<;>rfl
theorem classFault_eq {x:Template} (hx:smallT x) (k:Int):impl_classFault x k=some (fault x k):=by
  unfold impl_classFault fault impl_isClass
  rw[show Template.mk x.size x.rels=x from rfl,ValidTemplate_eq x hx,within_eq];simp only[bnd_s]
  split
  · rfl
  · split
    · rfl
    · split<;>rfl
theorem fault_zero {x:Template} {k:Int} (h:fault x k=0):tempB x=true∧x.size=2∧1≤k∧k≤6:=by
  unfold fault at h
  split at h
  · omega
  · rename_i h1
    split at h
    · omega
    · rename_i h2
      split at h
      · omega
      · rename_i h3
        simp at h1 h2 h3
        exact⟨h1,h2,h3.1,h3.2⟩
end Go.Proofs.YticojbhjloeckaaGreat
namespace Go.Proofs.YticojbhjloeckaaGreat
set_option linter.unusedVariables false
set_option linter.unusedSimpArgs false
theorem ones_loop {ρ : Type} : ∀ (m k : Nat) (s : List Int), s.length + m ≤ 1000 → vQ (σ := (List Int)) (ρ := ρ) (fun (k49 : Nat) (s43 : (List Int)) =>
     xX (ap s43 ([1])) fun z60=>
     some (.go z60)) m k s=some (.nx (s++List.replicate m 1))
  | 0,k,s,_=>by simp [vQ]
  | m+1,k,s,h=>by
    rw[forI_go (s':=s++[1]) (by rw[ap_eq (by simp only[List.length_cons,List.length_nil];omega),bnd_s]),ones_loop m (k+1) _ (by rw[List.length_append,List.length_singleton];omega),List.append_assoc,List.replicate_succ]
    rfl
theorem By_two {N:Nat} {t:Template} {y:Instance} {k:Int} (hu:TV 2 t) (h2:t.size=2) (hv:1≤y.vars∧y.vars≤10) (hy:y.cons.length≤24) (hC:∀ c∈y.cons,CV t y.vars c) (h1:1≤k) (h6:k≤6) (hN:2000≤N) :
    ∃ r,spec_l09By N t y k=some r∧r.1.length≤10∧(vO (σ:=Bool) (ρ:=Out ((List Int)×Bool) ((List Int)×Int)) (
      if (k==1) then
       some (.nx (k==1))
      else
       some (.nx (k==2))) fun s217=>
     if s217 then
      xX (ck (k - 1)) fun z220=>
      xX (zM ([z220]) y.vars) fun z224=>
      some (.nx (z224,true))
     else
      vO (σ:=Bool) (
       if (k==3) then
        some (.nx (k==3))
       else
        some (.nx (k==4))) fun s233=>
      if s233 then
       xX (impl_byArcs N (Template.mk t.size t.rels) (Instance.mk y.vars y.cons) (k==4)) fun z236=>
       some (.nx (z236.1,z236.2))
      else
       if (k==5) then
        xX (impl_byPairs N (Template.mk t.size t.rels) (Instance.mk y.vars y.cons)) fun z242=>
        some (.nx (z242.1,z242.2))
       else
        xX (impl_byEquations N (Template.mk t.size t.rels) (Instance.mk y.vars y.cons)) fun z247=>
        some (.nx (z247.1,z247.2)))=some (.nx r):=by
  have rep:∀ a:Int,zM [a] y.vars=some (List.replicate y.vars.toNat a):=fun a=>by
    unfold zM
    rw[if_pos ⟨rfl,by omega,by omega⟩]
    rfl
  unfold spec_l09By
  rcases class_kinds h1 h6 with rfl | rfl | rfl | rfl | rfl | rfl
  · have hz:mkz (0:Int) y.vars=some (List.replicate y.vars.toNat 0):=by
      unfold mkz
      rw[if_pos ⟨by omega,by omega⟩]
    refine⟨(List.replicate y.vars.toNat 0,true),?_,by show(List.replicate _ _).length≤10;rw[List.length_replicate];omega,?_⟩
    · rw[if_pos (by rfl),hz,bnd_s]
    · have e:ck ((1:Int) - 1)=some 0:=rfl
      simp only[show((1:Int)==1)=true from rfl,if_true,thn_nx,e,bnd_s,rep]
  · refine⟨(List.replicate y.vars.toNat 1,true),?_,by show(List.replicate _ _).length≤10;rw[List.length_replicate];omega,?_⟩
    · rw[if_neg (by decide),if_pos (by rfl),ones_loop y.vars.toNat 0 [] (by simp only[List.length_nil];omega),thn_nx,List.nil_append]
    · have e:ck ((2:Int) - 1)=some 1:=rfl
      simp only[show((2:Int)==1)=false from rfl,show((2:Int)==2)=true from rfl,Bool.false_eq_true,if_false,if_true,thn_nx,e,bnd_s,rep]
  · obtain⟨r,r',e1,e2,rfl,hl⟩:=Least_two (N:=N) false hu hv hC (by omega)
    have e1':impl_byArcs N (Template.mk t.size t.rels) (Instance.mk y.vars y.cons) false=some r:=e1;refine⟨r,?_,hl,?_⟩
    · simp only[show((3:Int)==1)=false from rfl,show((3:Int)==2)=false from rfl,show((3:Int)==3)=true from rfl,Bool.false_eq_true,if_false,if_true,e2,bnd_s]
    · simp only[show((3:Int)==1)=false from rfl,show((3:Int)==2)=false from rfl,show((3:Int)==3)=true from rfl,show((3:Int)==4)=false from rfl,Bool.false_eq_true,if_false,if_true,thn_nx,e1',bnd_s]
  · obtain⟨r,r',e1,e2,rfl,hl⟩:=Least_two (N:=N) true hu hv hC (by omega)
    have e1':impl_byArcs N (Template.mk t.size t.rels) (Instance.mk y.vars y.cons) true=some r:=e1;refine⟨r,?_,hl,?_⟩
    · simp only[show((4:Int)==1)=false from rfl,show((4:Int)==2)=false from rfl,show((4:Int)==3)=false from rfl,show((4:Int)==4)=true from rfl,Bool.false_eq_true,if_false,if_true,e2,bnd_s]
    · simp only[show((4:Int)==1)=false from rfl,show((4:Int)==2)=false from rfl,show((4:Int)==3)=false from rfl,show((4:Int)==4)=true from rfl,Bool.false_eq_true,if_false,if_true,thn_nx,e1',bnd_s]
  · obtain⟨r,r',e1,e2,rfl,hl⟩:=byPairs_two (N:=N) hu hv hy hC (by omega)
    have e1':impl_byPairs N (Template.mk t.size t.rels) (Instance.mk y.vars y.cons)=some r:=e1;refine⟨r,?_,hl,?_⟩
    · simp only[show((5:Int)==1)=false from rfl,show((5:Int)==2)=false from rfl,show((5:Int)==3)=false from rfl,show((5:Int)==4)=false from rfl,show((5:Int)==5)=true from rfl,Bool.false_eq_true,if_false,if_true,e2,bnd_s]
    · simp only[show((5:Int)==1)=false from rfl,show((5:Int)==2)=false from rfl,show((5:Int)==3)=false from rfl,show((5:Int)==4)=false from rfl,show((5:Int)==5)=true from rfl,Bool.false_eq_true,if_false,if_true,thn_nx,e1',bnd_s]
  · obtain⟨r,r',e1,e2,rfl,hl⟩:=Solve_two (N:=N) hu h2 hv hy hC hN
    have e1':impl_byEquations N (Template.mk t.size t.rels) (Instance.mk y.vars y.cons)=some r:=e1;refine⟨r,?_,hl,?_⟩
    · simp only[show((6:Int)==1)=false from rfl,show((6:Int)==2)=false from rfl,show((6:Int)==3)=false from rfl,show((6:Int)==4)=false from rfl,show((6:Int)==5)=false from rfl,Bool.false_eq_true,if_false,if_true,e2,bnd_s]
    · simp only[show((6:Int)==1)=false from rfl,show((6:Int)==2)=false from rfl,show((6:Int)==3)=false from rfl,show((6:Int)==4)=false from rfl,show((6:Int)==5)=false from rfl,Bool.false_eq_true,if_false,if_true,thn_nx,e1',bnd_s]
theorem Empty_eq (t:Template):spec_l09Empty t=some (t.rels.any fun r=>(r.tuples.length:Int)==0):=by
  unfold spec_l09Empty
  rw[kR (fun _ (r:Rel)=>if ((r.tuples.length:Int)==0) then some true else none) (fun j r hj=>by
    by_cases hr:((r.tuples.length:Int)==0)=true
    · rw[if_pos hr,if_pos hr];rfl
    · rw[if_neg hr,if_neg hr];rfl),fnd_any]
  cases t.rels.any (fun r=>(r.tuples.length:Int)==0)<;>rfl
theorem SolveByClass_two {N:Nat} {t:Template} {y:Instance} {k:Int} (ht:smallT t) (hN:2000≤N):∃ r,spec_SolveByClass N t y k=some r∧impl_SolveByClass N t y k=some r∧r.1.length≤10:=by
  obtain⟨i1,i2⟩:=inst_two (t:=t) (x:=y) ht;have i1':spec_l05Ok (Template.mk t.size t.rels) (Instance.mk y.vars y.cons)=some (instB t y):=i1;have i2':impl_ValidInstance (Template.mk t.size t.rels) (Instance.mk y.vars y.cons)=some (instB t y):=i2;have f1:spec_l09Two (Template.mk t.size t.rels) k=some (fault t k):=l09Two_eq ht k;have f2:impl_classFault (Template.mk t.size t.rels) k=some (fault t k):=classFault_eq ht k
  unfold spec_SolveByClass impl_SolveByClass
  rw[i1',i2',bnd_s,bnd_s]
  by_cases hi:instB t y=true
  · simp only[hi,Bool.not_true,Bool.false_eq_true,if_false]
    rw[f1,f2,bnd_s,bnd_s]
    by_cases hf:fault t k=0
    · obtain⟨hT,h2,h1,h6⟩:=fault_zero hf
      simp only[hf,show((0:Int) != 0)=false from rfl,Bool.false_eq_true,if_false];obtain⟨hv,hy,hC⟩:=inst_CV hi
      have hu:TV 2 t:=by have:=tempB_TV ht hT;rw[h2] at this;exact this
      obtain⟨b,k1,k2,k3⟩:=is_eq (N:=N) (by omega) ht hT h2 h1 h6;have k1':spec_l09Is N (Template.mk t.size t.rels) k=some b:=k1;have k3':impl_isKept N (Template.mk t.size t.rels) (Op.mk (kC k).arity (kC k).table)=some b:=k3;have em:spec_l09Empty (Template.mk t.size t.rels)=some (t.rels.any fun r=>(r.tuples.length:Int)==0):=Empty_eq t;have hn:=containsR_eq t.rels (fun r=>(r.tuples.length:Int)==0) (fun a0=>impl_hasNone a0) (fun r _=>rfl);rw[k1',k2,em,hn];simp only[bnd_s];rw[k3'];obtain⟨r,b1,b3,b2⟩:=By_two (N:=N) (k:=k) hu h2 hv hy hC h1 h6 hN;have b1':spec_l09By N (Template.mk t.size t.rels) (Instance.mk y.vars y.cons) k=some r:=b1;rw[b1'];obtain⟨q,hq⟩:∃ q:Bool,q=(!b || (decide (k≤2) && t.rels.any fun r=>(r.tuples.length:Int)==0)):=⟨_,rfl⟩
      have s1:(if (!b)=true then some (Out.nx (σ:=Bool) (ρ:=(List Int)×Int) true) else if (k==1)=true then some (.nx (t.rels.any fun r=>(r.tuples.length:Int)==0)) else if (k==2)=true then some (.nx (t.rels.any fun r=>(r.tuples.length:Int)==0)) else some (.nx false))=some (.nx q):=by
        rw[hq]
        rcases class_kinds h1 h6 with rfl | rfl | rfl | rfl | rfl | rfl<;>cases b<;>simp
      have s2:xX (some b) (fun z104=>if (!z104)=true then some (Out.nx (σ:=Bool) (ρ:=(List Int)×Int) true) else if decide (k≤2)=true then some (.nx (t.rels.any fun r=>(r.tuples.length:Int)==0)) else some (.nx false))=some (.nx q):=by
        rw[hq,bnd_s]
        rcases class_kinds h1 h6 with rfl | rfl | rfl | rfl | rfl | rfl<;>cases b<;>simp
      rw[s1,s2,thn_nx,thn_nx]
      cases q with
      | true=>exact⟨([],4),rfl,rfl,Nat.zero_le _⟩
      | false=>
        simp only[Bool.false_eq_true,if_false];rw[b2,bnd_s,thn_nx]
        cases hr:r.2 with
        | true=>
          refine⟨(r.1,0),?_,?_,b3⟩
          · simp [hr]
          · simp [hr]
        | false=>
          refine⟨([],6),?_,?_,Nat.zero_le _⟩
          · simp [hr]
          · simp [hr]
    · have hf':(fault t k != 0)=true:=by simpa using hf
      rw[hf'];exact⟨([],fault t k),rfl,rfl,Nat.zero_le _⟩
  · have hi':instB t y=false:=by simpa using hi
    rw[hi'];exact⟨([],1),rfl,rfl,Nat.zero_le _⟩
end Go.Proofs.YticojbhjloeckaaGreat
namespace Go.Proofs.YticojbhjloeckaaGreat
set_option linter.unusedVariables false
set_option linter.unusedSimpArgs false
theorem cntCo (c:Con):c.ecnt≤10*(1+c.sz):=by
  have:zK cI c.scope≤c.sz:=by rw[cntI];unfold Con.sz;omega
  unfold Con.ecnt Con.cnt
  omega
theorem cntIn {x:Instance} (h:x.sz≤1048576):x.cnt≤104857600:=by
  have:=cntS_le_szS cntCo x.cons
  unfold Instance.sz at h
  unfold Instance.cnt
  omega
theorem szq_two {left:Int} {n:Nat} (h0:0≤left) (h1:left≤1048576):∃ z,szq left n=some z∧(decide (z<0)=true∨(decide (z<0)=false∧z=left - n∧(n:Int)≤left)):=by
  refine⟨szR left n,szq_eq h0 h1,?_⟩
  unfold szR
  split
  · exact .inr ⟨by simp;omega,rfl,by assumption⟩
  · exact .inl (by simp)
end Go.Proofs.YticojbhjloeckaaGreat
