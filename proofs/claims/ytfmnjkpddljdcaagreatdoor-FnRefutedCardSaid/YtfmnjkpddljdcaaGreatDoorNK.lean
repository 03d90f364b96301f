import Derived.Test.YtfmnjkpddljdcaaGreatDoorNG
namespace Go.Proofs.YtfmnjkpddljdcaaGreatDoor
set_option linter.unusedVariables false
set_option linter.unusedSimpArgs false
open Go.RowKit
def OPt (v:Value) (i:Nat) (p:Value):Prop:=∃ b o m c,v= .slice (some ⟨b,o,none⟩) m c∧p= .pointer (some ⟨b,o+i,none⟩)
def RS {α:Type} (sz:Nat) (R:ER α):ER (Value ⊕ List α):=fun w f x bs=>match x with
  | .inl u=>f 0=some u∧u.oneCell'=true∧bs=[]
  | .inr l=>vS sz R w f l bs
instance {α:Type} {sz:Nat} {R:ER α} [hR:FrC sz R]:FrC 1 (RS sz R):=⟨fun w w' f g x bs h hs hg=>by
    cases x with
    | inl u=>exact⟨(hg 0 (by omega)).trans h.1,h.2⟩
    | inr l=>exact(inferInstance:FrC 1 (vS sz R)).fr _ _ _ _ _ _ h hs hg,fun w f x bs h j hj=>by
    cases x with
    | inl u=>
      obtain rfl:j=0:=by omega
      exact⟨u,h.1,h.2.1⟩
    | inr l=>exact(inferInstance:FrC 1 (vS sz R)).tot _ _ _ _ h j hj⟩
theorem yH {bss:List (List Nat)} {i:Nat} {c:Nat} (h:c∈(bss.set i []).flatten):c∈bss.flatten:=(eB h).elim id (fun h=>nomatch h)
theorem xEc {bss:List (List Nat)} (hn:bss.flatten.Nodup) {i:Nat} {bi:List Nat} (hi:bss[i]?=some bi):bi.Nodup∧(bss.set i []).flatten.Nodup∧∀ c∈bi,c ∉ (bss.set i []).flatten:=by
  obtain⟨hl,rfl⟩:=List.getElem?_eq_some_iff.1 hi
  have e:bss=bss.take i++bss[i]::bss.drop (i+1):=by rw[← List.drop_eq_getElem_cons hl,List.take_append_drop]
  have e2:bss.set i []=bss.take i++[]::bss.drop (i+1):=by rw[List.set_eq_take_append_cons_drop,if_pos hl]
  rw[e2];rw[e] at hn;simp only[List.flatten_append,List.flatten_cons,List.nil_append] at hn ⊢;rw[List.nodup_append] at hn;obtain⟨n1,n2,n3⟩:=hn;rw[List.nodup_append] at n2;obtain⟨n4,n5,n6⟩:=n2;refine⟨n4,List.nodup_append.2 ⟨n1,n5,fun a ha b hb=>n3 a ha b (List.mem_append_right _ hb)⟩,fun c hc hm=>?_⟩
  rcases List.mem_append.1 hm with h | h
  · exact n3 c h c (List.mem_append_left _ hc) rfl
  · exact n6 c hc c h rfl
section
variable {X:List Nat} {N:Nat→Prop} {w0 w:World} {D:List As} {α:Type} {sz:Nat} {R:ER α} [hR:FrC sz R] {E:TypeId} {v:Value}
theorem Sep.unfoc {xss:List (List α)} {i:Nat} {u:Value} {l:List α} (hi:i<xss.length) (H:Sep X N w0 w (ow (V:=Sl sz R) u l::rl 1 (RS sz R) E v ((xss.map .inr).set i (.inl u))::D)):Sep X N w0 w (rl 1 (vS sz R) E v (xss.set i l)::D):=by
  obtain⟨Y,⟨Y1,Y2,⟨bs,hr,ho1,hs⟩,⟨rb,ib,r1,ho2,r2,r3⟩,dj,y1,y2⟩,hN,hY,tr⟩:=H.mg.hd;obtain⟨xs,bss,ho,hl,hfl,he⟩:=r1.row
  have hlen:((xss.map Sum.inr).set i (Sum.inl u):List (Value ⊕ List α)).length=xss.length:=by simp
  rw[hlen] at ho hl
  have hib:i<bss.length:=by omega
  have h0:=he i (.inl u) bss[i] (by rw[List.getElem?_set_self (by simpa using hi)]) (List.getElem?_eq_getElem hib);have hbi:bss[i]=[]:=h0.2.2
  have hself:bss.set i []=bss:=by rw[← hbi,List.set_getElem_self]
  have hm:∀ c,c∈(bss.set i bs).flatten→c∈ib∨c∈bs:=fun c hc=>(eB hc).imp (fun h=>by rw[← hfl];exact h) id
  have hnd:(bss.set i bs).flatten.Nodup:=by
    have e2:bss.set i bs=bss.take i++bs::bss.drop (i+1):=by rw[List.set_eq_take_append_cons_drop,if_pos hib]
    have e3:bss=bss.take i++[]::bss.drop (i+1):=by
      conv=>lhs;rw[← hself]
      rw[List.set_eq_take_append_cons_drop,if_pos hib]
    have hn:=ho2.1;rw[← hfl,e3] at hn
    have hib2:∀ c,c∈(bss.take i).flatten∨c∈(bss.drop (i+1)).flatten→c∈ib:=fun c hc=>by
      rw[← hfl,e3];simp only[List.flatten_append,List.flatten_cons,List.nil_append,List.mem_append];exact hc
    rw[e2];simp only[List.flatten_append,List.flatten_cons,List.nil_append] at hn ⊢;rw[List.nodup_append] at hn;obtain⟨n1,n2,n3⟩:=hn;have dd:∀ c∈bs,c ∉ ib:=fun c hc hc'=>dj c (hs c hc) (r3 c hc');refine List.nodup_append.2 ⟨n1,List.nodup_append.2 ⟨ho1.1,n2,fun a ha b hb e=>?_⟩,fun a ha b hb e=>?_⟩
    · subst e
      exact dd a ha (hib2 a (.inr hb))
    · subst e
      rcases List.mem_append.1 hb with h | h
      · exact dd a h (hib2 a (.inl ha))
      · exact n3 a ha a h rfl
  have row:Row 1 (vS sz R) E 0 w v (xss.set i l) rb (bss.set i bs).flatten:=by
    refine⟨⟨xs,bss.set i bs,by rw[List.length_set];exact ho,by simp [hl],rfl,fun j x bi hx hb=>?_⟩,r1.hrb,fun c hc=>?_,fun c hc hc'=>?_⟩
    · by_cases hji:j=i
      · subst hji
        rw[List.getElem?_set_self hi] at hx;rw[List.getElem?_set_self hib] at hb
        cases hx
        cases hb
        exact⟨u,h0.1,hr.r⟩
      · rw[List.getElem?_set_ne (fun e=>hji e.symm)] at hx hb
        have:=he j (.inr x) bi (by rw[List.getElem?_set_ne (fun e=>hji e.symm),List.getElem?_map,hx];rfl) hb;exact this
    · exact(hm c hc).elim (r1.mem c) (hr.m c)
    · rcases hm c hc' with h | h
      · exact r1.dj c hc h
      · exact dj c (hs c h) (r2 c hc)
  have own:Own 0 (bss.set i bs).flatten w:=⟨hnd,fun c hc=>(hm c hc).elim (ho2.2 c) (ho1.2 c)⟩;refine tr (Z:=[]) (fun _ h=>nomatch h) (Only.refl _ _) (B:=rl 1 (vS sz R) E v (xss.set i l)) (Y1:=Y) ⟨rb,_,row,own,fun c hc=>y2 c (r2 c hc),fun c hc=>(hm c hc).elim (fun h=>y2 c (r3 c h)) (fun h=>y1 c (hs c h))⟩ n0 (fun c hc=>⟨.inl hc,(hY c hc).1⟩)
end
section
variable {P:Program} {ops:Array Oper} {Q:Exit→Act→World→Prop} {a:Act} {w w0 w1:World} {n:Nat} {L:List (Nat×Value)} {rest:List Oper} {d:Nat} {ty:TypeId} {pos:String} {af:Array Edge} {g:Option (Nat×Bool)} {M N N1:Nat→Prop} {X:List Nat} {D:List As}
theorem xBn {α:Type} {sz:Nat} {R:ER α} [hR:FrC sz R] {x:Operand} {t E:TypeId} {v p:Value} {xss:List (List α)} {i:Nat} {l:List α} (hag:∀ w,(isAgg t).run P w= .ok false w) (F:Sk a n L) (hc:aV ops n L g d=true) (he:ev L x=some p) (H:Sep X N w0 w (rl 1 (vS sz R) E v xss::D)) (hp:RPt v 1 i p) (hi:xss[i]?=some l)
    (k:∀ a' u,Sep X N w0 w (ow (V:=Sl sz R) u l::rl 1 (RS sz R) E v ((xss.map .inr).set i (.inl u))::D)→i<xss.length→Sk a' n ((d,u)::L)→wpList P ops Q rest a' w):wpList P ops Q (⟨some d,.load t x,ty,pos,af,g⟩::rest) a w:=by
  obtain⟨Y,⟨rb,ib,r1,hown,r2,r3⟩,hN,hY,tr⟩:=H.hd;obtain⟨g2,m,c,rfl,rfl⟩:=hp;obtain⟨hil,hil2⟩:=List.getElem?_eq_some_iff.1 hi;obtain⟨xs,bss,ho,hl,hfl,hel⟩:=r1.row
  have hib:i<bss.length:=by omega
  have hbi:=List.getElem?_eq_getElem hib;obtain⟨u,hu,hsl⟩:=hel i l bss[i] hi hbi;simp only[Nat.mul_one,Nat.add_zero] at hu
  have hcell:w.cell? ⟨g2,i*1,none⟩=some u:=by
    have:=ho.cells (g:=g2) rfl i u hu;rw[dD] at this
    simpa using this
  have hnd:=xEc (by rw[hfl];exact hown.1) hbi
  have hsub:∀ c∈bss[i],c∈ib:=fun c hc=>by rw[← hfl];exact List.mem_flatten.2 ⟨_,List.getElem_mem hib,hc⟩
  have hsub2:∀ c∈(bss.set i []).flatten,c∈ib:=fun c hc=>by rw[← hfl];exact yH hc
  have rd:Rd (Sl sz R) w u l bss[i]:=⟨hsl,fun c hc=>r1.mem c (hsub c hc)⟩
  have hole:Row 1 (RS sz R) E 0 w (.slice (some ⟨g2,0,none⟩) m c) ((xss.map .inr).set i (.inl u)) rb (bss.set i []).flatten:=by
    refine⟨⟨xs,bss.set i [],by simpa using ho,by simp [hl],rfl,fun j y bj hy hbj=>?_⟩,r1.hrb,fun c hc=>r1.mem c (hsub2 c hc),fun c hc hc'=>r1.dj c hc (hsub2 c hc')⟩
    by_cases hji:j=i
    · subst hji
      rw[List.getElem?_set_self (by simpa using hil)] at hy;rw[List.getElem?_set_self hib] at hbj
      cases hy
      cases hbj
      exact⟨by simpa using hu,hsl.one,rfl⟩
    · rw[List.getElem?_set_ne (fun e=>hji e.symm)] at hy hbj
      rw[List.getElem?_map,Option.map_eq_some_iff] at hy;obtain⟨z,hz,rfl⟩:=hy;exact hel j z bj hz hbj
  refine kJ F hc (lC hag F he hcell) (fun a' F'=>k a' u ?_ hil F');refine Sep.um (tr (Z:=[]) (fun _ h=>nomatch h) (Only.refl _ _) (B:=pr (ow (V:=Sl sz R) u l) (rl 1 (RS sz R) E (.slice (some ⟨g2,0,none⟩) m c) ((xss.map .inr).set i (.inl u)))) (Y1:=Y) ⟨bss[i],rb++(bss.set i []).flatten,⟨bss[i],rd,⟨hnd.1,fun c hc=>hown.2 c (hsub c hc)⟩,fun c hc=>hc⟩,⟨rb,_,hole,⟨hnd.2.1,fun c hc=>hown.2 c (hsub2 c hc)⟩,fun c hc=>List.mem_append_left _ hc,fun c hc=>List.mem_append_right _ hc⟩,fun c hc hc'=>?_,fun c hc=>r3 c (hsub c hc),fun c hc=>?_⟩ (fun c hc=>hc.elim (n0 c) (n0 c)) (fun c hc=>⟨.inl hc,(hY c hc).1⟩))
  · rcases List.mem_append.1 hc' with h | h
    · exact r1.dj c h (hsub c hc)
    · exact hnd.2.2 c hc h
  · rcases List.mem_append.1 hc with h | h
    · exact r2 c h
    · exact r3 c (hsub2 c h)
theorem oRo {α:Type} {R:ER α} [hR:FrC 1 R] {x iy:Operand} {t E:TypeId} {v:Value} {l:List α} {i:Int} {y:α} (ht:P.underlying t=some (.slice E)) (hsz:∀ w,(sizeOf E).run P w= .ok 1 w)
    (F:Sk a n L) (hc:aV ops n L g d=true) (he:ev L x=some v) (hi:ev L iy=some (.int .i64 i)) (H:Sep X N w0 w D) (j:Nat) (hj:D[j]?=some (ow (V:=Sl 1 R) v l)) (hix:ix l i=some y)
    (k:∀ a' p,Bo (All w) w (Pt 1 R) p y→OPt v i.toNat p→Sk a' n ((d,p)::L)→wpList P ops Q rest a' w):wpList P ops Q (⟨some d,.indexAddr t x iy,ty,pos,af,g⟩::rest) a w:=by
  obtain⟨bs,h,hA⟩:=H.o j hj;obtain⟨h0,hy⟩:=sL hix;obtain⟨hk,rfl⟩:=List.getElem?_eq_some_iff.1 hy;obtain⟨a',c',rfl,h1,h2,h3,h4⟩:=h.r.open;obtain⟨b,o,bss,bi,rfl,rfl,_,_,hs,hr⟩:=h4 i.toNat hk;simp only[Nat.mul_one] at hr;refine kJ (v:=.pointer (some ⟨b,o+i.toNat,none⟩)) (w':=w) F hc ?_ (fun a' F'=>k a' _ ⟨b::bi,⟨⟨b,_,bi,rfl,rfl,hr⟩,fun c hc=>?_⟩,fun c hc=>?_⟩ ⟨b,o,_,c',rfl,rfl⟩ F')
  · have hadd:=dD b o (i.toNat*1)
    unfold execOp
    simp only[F.ev he,F.ev hi]
    have hil:i<(l.length:Int):=by omega
    simp only[Nat.mul_one] at hadd
    simp [Instr.indexAt,run_underlying ht,asIntOf,h0,hil,hsz,hadd]
  · rcases List.mem_cons.1 hc with rfl | hc
    · exact h.m _ (by simp)
    · exact h.m _ (hs c hc)
  · rcases List.mem_cons.1 hc with rfl | hc
    · exact hA _ (by simp)
    · exact hA _ (hs c hc)
theorem oSo {x y:Operand} {t:TypeId} {v p:Value} {l l':List Int} {i:Nat} {z:Int} (hsz:∀ w,(sizeOf t).run P w= .ok 1 w)
    (F:Sk a n L) (hc:gok ops L g=true) (hx:ev L x=some p) (hy:ev L y=some (.int .i64 z)) (H:Sep X N w0 w (ow (V:=Sl 1 xM) v l::D)) (hp:OPt v i p) (hi:i<l.length) (hz:xS z) (hl:l.set i z=l')
    (k:∀ w',Sep X N w0 w' (ow (V:=Sl 1 xM) v l'::D)→wpList P ops Q rest a w'):wpList P ops Q (⟨none,.store t x y,ty,pos,af,g⟩::rest) a w:=by
  obtain⟨Y,⟨bs,hr,ho,hs⟩,hN,hY,tr⟩:=H.hd;obtain⟨ad,c,rfl,h1,h2,h3,h4⟩:=hr.r
  rcases h4 with ⟨rfl,_⟩ | ⟨b,o,bss,rfl,rfl,he⟩
  · simp at hi
  obtain⟨b',o',m',c',e,rfl⟩:=hp;simp only[Value.slice.injEq,Option.some.injEq,Addr.mk.injEq,and_true] at e;obtain⟨⟨rfl,rfl⟩,rfl,rfl⟩:=e;subst hl;obtain⟨_,cur,e,hcur⟩:=ho.2 b (by simp);have hK:gM w b cur e:=hcur
  have hbs:∀ j bj,bss[j]?=some bj→bj=[]:=fun j bj hb=>by
    have hj:j<l.length:=by have:=(List.getElem?_eq_some_iff.1 hb).1;rw[he.1] at this;exact this
    exact(he.2 j _ bj (List.getElem?_eq_getElem hj) hb).2.2
  have hflat:bss.flatten=[]:=List.flatten_eq_nil_iff.2 (fun bj hb=>by obtain⟨j,hj,rfl⟩:=List.getElem_of_mem hb;exact hbs j _ (List.getElem?_eq_getElem hj));have hcell:=he.2 i _ _ (List.getElem?_eq_getElem hi) (List.getElem?_eq_getElem (by rw[he.1];exact hi))
  have hin:o+i<cur.size:=by
    have:=hcell.1;simp only[Nat.mul_one,Nat.add_zero] at this;rw[hK.cell] at this;exact(Array.getElem?_eq_some_iff.1 this).1
  refine xCx hsz F hc hx hy hK rfl hin rfl (fun w' K' lo=>k w' (tr (Z:=[b]) (fun c hc=>hs c (by rw[List.mem_singleton] at hc;simp [hc])) lo (B:=ow (V:=Sl 1 xM) _ (l.set i z)) (Y1:=Y) ⟨b::bss.flatten,⟨⟨_,_,by simp,by simpa using h1,h2,h3,.inr ⟨b,o,bss,rfl,rfl,by simp [he.1],fun j y' bj hy' hb=>?_⟩⟩,fun c hc=>?_⟩,⟨ho.1,fun c hc=>?_⟩,hs⟩ n0 (fun c hc=>⟨.inl hc,Nat.lt_of_lt_of_le (hY c hc).1 lo.size⟩)))
  · obtain rfl:=hbs j bj hb
    simp only[Nat.mul_one]
    by_cases hji:j=i
    · subst hji
      rw[List.getElem?_set_self hi] at hy'
      cases hy'
      refine⟨?_,hz,rfl⟩
      show w'.cell? ⟨b,o+j+0,none⟩=_
      rw[Nat.add_zero,K'.cell,Array.getElem?_setIfInBounds,if_pos rfl,if_pos hin]
    · rw[List.getElem?_set_ne (fun e=>hji e.symm)] at hy'
      have hm:=he.2 j y' [] hy' hb;simp only[Nat.mul_one] at hm;refine⟨?_,hm.2.1,rfl⟩;have h5:w.cell? ⟨b,o+j+0,none⟩=_:=hm.1
      show w'.cell? ⟨b,o+j+0,none⟩=_
      rw[Nat.add_zero] at h5 ⊢;rw[hK.cell] at h5;rw[K'.cell,Array.getElem?_setIfInBounds,if_neg (by omega)];exact h5
  · rw[hflat,List.mem_singleton] at hc
    subst hc;exact K'.lt
  · rw[hflat,List.mem_singleton] at hc
    subst hc;exact⟨Nat.zero_le _,_,_,K'⟩
theorem xIm {α:Type} {sz:Nat} {R:ER α} [hR:FrC sz R] {x y:Operand} {t E2:TypeId} {v p u:Value} {xss l':List (List α)} {i:Nat} {l:List α} (hsz:∀ w,(sizeOf t).run P w= .ok 1 w)
    (F:Sk a n L) (hc:gok ops L g=true) (hx:ev L x=some p) (hy:ev L y=some u) (H:Sep X N w0 w (ow (V:=Sl 1 (vS sz R)) v xss::rl sz R E2 u l::D)) (hp:OPt v i p) (hi:i<xss.length) (hl:xss.set i l=l')
    (k:∀ w',Sep X N w0 w' (ow (V:=Sl 1 (vS sz R)) v l'::D)→wpList P ops Q rest a w'):wpList P ops Q (⟨none,.store t x y,ty,pos,af,g⟩::rest) a w:=by
  obtain⟨Y,⟨Y1,Y2,⟨bs,hr,ho,hs⟩,⟨rb2,ib2,s1,so,s2,s3⟩,dj,y1,y2⟩,hN,hY,tr⟩:=H.mg.hd;obtain⟨ad,c,rfl,h1,h2,h3,h4⟩:=hr.r
  rcases h4 with ⟨rfl,_⟩ | ⟨b,o,bss,rfl,rfl,he⟩
  · simp at hi
  obtain⟨b',o',m',c',e,rfl⟩:=hp;simp only[Value.slice.injEq,Option.some.injEq,Addr.mk.injEq,and_true] at e;obtain⟨⟨rfl,rfl⟩,rfl,rfl⟩:=e;subst hl;obtain⟨_,cur,e,hcur⟩:=ho.2 b (by simp);have hK:gM w b cur e:=hcur;have hm:∀ c,c∈rb2++ib2→c∈Y2:=fun c hc=>(List.mem_append.1 hc).elim (s2 c) (s3 c);have hown:=s1.own so
  have hone:u.oneCell'=true:=by obtain⟨ad,c,rfl,_⟩:=s1.val;rfl
  have hnd:=List.nodup_cons.1 ho.1
  have hbi:i<bss.length:=by rw[he.1];exact hi
  have hb2:b ∉ rb2++ib2:=fun h=>dj b (hs b (by simp)) (hm b h);have hfm:∀ c∈bss.flatten,c∈Y1:=fun c hc=>hs c (by simp [hc]);obtain⟨u0,hu0,_⟩:=he.2 i _ _ (List.getElem?_eq_getElem hi) (List.getElem?_eq_getElem hbi)
  have hin:o+i<cur.size:=by
    simp only[Nat.mul_one,Nat.add_zero] at hu0;rw[hK.cell] at hu0;exact(Array.getElem?_eq_some_iff.1 hu0).1
  refine xCx hsz F hc hx hy hK hone hin rfl (fun w' K' lo=>?_)
  have hsm:∀ c,c∈bss.flatten∨c∈rb2++ib2→w'.heap[c]?=w.heap[c]?∧c<w.heap.size:=fun c hc=>by
    rcases hc with h | h
    · exact⟨lo.block c (hr.m c (by simp [h])) (fun h'=>by rw[List.mem_singleton] at h';subst h';exact hnd.1 h),hr.m c (by simp [h])⟩
    · exact⟨lo.block c (hown.inMem c h) (fun h'=>by rw[List.mem_singleton] at h';subst h';exact hb2 h),hown.inMem c h⟩
  have hset:∀ c,c∈(bss.set i (rb2++ib2)).flatten→c∈bss.flatten∨c∈rb2++ib2:=fun c hc=>eB hc
  have hcell:∀ j,w'.cell? ⟨b,o+j,none⟩=if j=i then some u else w.cell? ⟨b,o+j,none⟩:=fun j=>by
    rw[K'.cell,hK.cell,Array.getElem?_setIfInBounds]
    by_cases hji:j=i
    · rw[if_pos (by omega),if_pos hji,if_pos hin]
    · rw[if_neg (by omega),if_neg hji]
  refine k w' (tr (Z:=[b]) (fun c hc=>by rw[List.mem_singleton] at hc;subst hc;exact y1 c (hs c (by simp))) lo (B:=ow (V:=Sl 1 (vS sz R)) _ (xss.set i l)) (Y1:=Y) ⟨b::(bss.set i (rb2++ib2)).flatten,⟨⟨_,_,by simp,by simpa using h1,h2,h3,.inr ⟨b,o,bss.set i (rb2++ib2),rfl,rfl,by simp [he.1],fun j y' bj hy' hb=>?_⟩⟩,fun c hc=>?_⟩,⟨List.nodup_cons.2 ⟨fun h=>(hset b h).elim hnd.1 hb2,tO hnd.2 hown.1 (fun c hc hc2=>dj c (hfm c hc) (hm c hc2))⟩,fun c hc=>?_⟩,fun c hc=>?_⟩ n0 (fun c hc=>⟨.inl hc,Nat.lt_of_lt_of_le (hY c hc).1 lo.size⟩))
  · simp only[Nat.mul_one]
    by_cases hji:j=i
    · subst hji
      rw[List.getElem?_set_self hi] at hy';rw[List.getElem?_set_self hbi] at hb
      cases hy'
      cases hb
      refine⟨u,?_,s1.rd.r.same hR.fr (fun c hc=>(hsm c (.inr hc)).1)⟩
      show w'.cell? ⟨b,o+j+0,none⟩=_
      rw[Nat.add_zero,hcell j,if_pos rfl]
    · rw[List.getElem?_set_ne (fun e=>hji e.symm)] at hy' hb
      obtain⟨uj,hj1,hj2⟩:=he.2 j y' bj hy' hb;refine⟨uj,?_,hj2.same hR.fr (fun c hc=>(hsm c (.inl (List.mem_flatten.2 ⟨bj,List.mem_of_getElem? hb,hc⟩))).1)⟩;simp only[Nat.mul_one,Nat.add_zero] at hj1
      show w'.cell? ⟨b,o+j+0,none⟩=_
      rw[Nat.add_zero,hcell j,if_neg hji];exact hj1
  · rcases List.mem_cons.1 hc with rfl | hc
    · exact K'.lt
    · exact Nat.lt_of_lt_of_le (hsm c (hset c hc)).2 lo.size
  · rcases List.mem_cons.1 hc with rfl | hc
    · exact⟨Nat.zero_le _,_,_,K'⟩
    · rw[(hsm c (hset c hc)).1]
      rcases hset c hc with h | h
      · exact ho.2 c (by simp [h])
      · exact hown.2 c h
  · rcases List.mem_cons.1 hc with rfl | hc
    · exact y1 c (hs c (by simp))
    · exact(hset c hc).elim (fun h=>y1 c (hfm c h)) (fun h=>y2 c (hm c h))
end
end Go.Proofs.YtfmnjkpddljdcaaGreatDoor
