import Derived.Test.YtfmnjkpddljdcaaGreatDoorNG
import Derived.Test.YtfmnjkpddljdcaaGreatDoorNM
namespace Go.Proofs.YtfmnjkpddljdcaaGreatDoor
set_option linter.unusedVariables false
set_option linter.unusedSimpArgs false
open Go.RowKit
end Go.Proofs.YtfmnjkpddljdcaaGreatDoor
namespace Go.Proofs.YtfmnjkpddljdcaaGreatDoor
set_option linter.unusedVariables false
set_option linter.unusedSimpArgs false
open Go.RowKit
def RLH:ER (l08Level ⊕ (Value×Literal)):=fun w f x bs=>match x with
  | .inl l=>vM w f l bs
  | .inr (u,c)=>f 0=some u∧u.oneCell'=true∧f 1=some (xF c.var)∧xS c.var∧f 2=some (xF c.value)∧xS c.value∧bs=[]
instance:FrC 3 RLH:=⟨fun w w' f g x bs h hs hg=>by
    cases x with
    | inl l=>exact(inferInstance:FrC 3 vM).fr _ _ _ _ _ _ h hs hg
    | inr u=>exact⟨(hg 0 (by omega)).trans h.1,h.2.1,(hg 1 (by omega)).trans h.2.2.1,h.2.2.2.1,(hg 2 (by omega)).trans h.2.2.2.2.1,h.2.2.2.2.2.1,h.2.2.2.2.2.2⟩,fun w f x bs h j hj=>by
    cases x with
    | inl l=>exact(inferInstance:FrC 3 vM).tot _ _ _ _ h j hj
    | inr u=>
      have:j=0∨j=1∨j=2:=by omega
      rcases this with rfl | rfl | rfl
      · exact⟨_,h.1,h.2.1⟩
      · exact⟨_,h.2.2.1,rfl⟩
      · exact⟨_,h.2.2.2.2.1,rfl⟩⟩
section
variable {X:List Nat} {N:Nat→Prop} {w0 w:World} {D:List As} {E:TypeId} {v:Value}
theorem Sep.unfocL {xs:List l08Level} {i:Nat} {u:Value} {l:List (List Int)} {c:Literal} (hi:i<xs.length) (H:Sep X N w0 w (ow (V:=Sl 1 eG) u l::rl 3 RLH E v ((xs.map .inl).set i (.inr (u,c)))::D)):Sep X N w0 w (rl 3 vM E v (xs.set i ⟨l,c⟩)::D):=by
  obtain⟨Y,⟨Y1,Y2,⟨bs,hr,ho1,hs⟩,⟨rb,ib,r1,ho2,r2,r3⟩,dj,y1,y2⟩,hN,hY,tr⟩:=H.mg.hd;obtain⟨cs,bss,ho,hl,hfl,he⟩:=r1.row
  have hlen:((xs.map Sum.inl).set i (Sum.inr (u,c)):List (l08Level ⊕ (Value×Literal))).length=xs.length:=by simp
  rw[hlen] at ho hl
  have hib:i<bss.length:=by omega
  have h0:=he i (.inr (u,c)) bss[i] (by rw[List.getElem?_set_self (by simpa using hi)]) (List.getElem?_eq_getElem hib);have hm:∀ c,c∈(bss.set i bs).flatten→c∈ib∨c∈bs:=fun c hc=>(eB hc).imp (fun h=>by rw[← hfl];exact h) id;have hnd:(bss.set i bs).flatten.Nodup:=tO (by rw[hfl];exact ho2.1) ho1.1 (by rw[hfl];exact fun c hc hc'=>dj c (hs c hc') (r3 c hc))
  have row:Row 3 vM E 0 w v (xs.set i ⟨l,c⟩) rb (bss.set i bs).flatten:=by
    refine⟨⟨cs,bss.set i bs,by rw[List.length_set];exact ho,by simp [hl],rfl,fun j x bi hx hb=>?_⟩,r1.hrb,fun c hc=>?_,fun c hc hc'=>?_⟩
    · by_cases hji:j=i
      · subst hji
        rw[List.getElem?_set_self hi] at hx;rw[List.getElem?_set_self hib] at hb
        cases hx
        cases hb
        exact⟨u,bs,h0.1,hr.r,h0.2.2.1,h0.2.2.2.1,h0.2.2.2.2.1,h0.2.2.2.2.2.1,rfl⟩
      · rw[List.getElem?_set_ne (fun e=>hji e.symm)] at hx hb
        have:=he j (.inl x) bi (by rw[List.getElem?_set_ne (fun e=>hji e.symm),List.getElem?_map,hx];rfl) hb;exact this
    · exact(hm c hc).elim (r1.mem c) (hr.m c)
    · rcases hm c hc' with h | h
      · exact r1.dj c hc h
      · exact dj c (hs c h) (r2 c hc)
  have own:Own 0 (bss.set i bs).flatten w:=⟨hnd,fun c hc=>(hm c hc).elim (ho2.2 c) (ho1.2 c)⟩;refine tr (Z:=[]) (fun _ h=>nomatch h) (Only.refl _ _) (B:=rl 3 vM E v (xs.set i ⟨l,c⟩)) (Y1:=Y) ⟨rb,_,row,own,fun c hc=>y2 c (r2 c hc),fun c hc=>(hm c hc).elim (fun h=>y2 c (r3 c h)) (fun h=>y1 c (hs c h))⟩ n0 (fun c hc=>⟨.inl hc,(hY c hc).1⟩)
theorem Sep.unfocL0 {xs:List l08Level} {i:Nat} {u:Value} {y:l08Level} (hi:i<xs.length) (hx:xs[i]?=some y) (H:Sep X N w0 w (ow (V:=Sl 1 eG) u y.domains::rl 3 RLH E v ((xs.map .inl).set i (.inr (u,y.chosen)))::D)):Sep X N w0 w (rl 3 vM E v xs::D):=by
  have h:=Sep.unfocL hi H;obtain⟨h1,rfl⟩:=List.getElem?_eq_some_iff.1 hx
  rwa [show(⟨xs[i].domains,xs[i].chosen⟩:l08Level)=xs[i] from rfl,List.set_getElem_self] at h
end
section
variable {P:Program} {ops:Array Oper} {Q:Exit→Act→World→Prop} {a:Act} {w w0:World} {n:Nat} {L:List (Nat×Value)} {rest:List Oper} {d:Nat} {ty:TypeId} {pos:String} {af:Array Edge} {g:Option (Nat×Bool)} {N:Nat→Prop} {X:List Nat} {D:List As}
theorem Sep.focL {E:TypeId} {v:Value} {xs:List l08Level} {i:Nat} {y:l08Level} (H:Sep X N w0 w (rl 3 vM E v xs::D)) (hi:xs[i]?=some y) :
    ∃ u,i<xs.length∧Sep X N w0 w (ow (V:=Sl 1 eG) u y.domains::rl 3 RLH E v ((xs.map .inl).set i (.inr (u,y.chosen)))::D):=by
  obtain⟨Y,⟨rb,ib,r1,hown,r2,r3⟩,hN,hY,tr⟩:=H.hd;obtain⟨hil,hil2⟩:=List.getElem?_eq_some_iff.1 hi;obtain⟨cs,bss,ho,hl,hfl,hel⟩:=r1.row
  have hib:i<bss.length:=by omega
  have hbi:=List.getElem?_eq_getElem hib;obtain⟨u,b0,hu,hsl,k1,k2,k3,k4,hb0⟩:=hel i y bss[i] hi hbi;have hnd:=xEc (by rw[hfl];exact hown.1) hbi
  have hsub:∀ c∈bss[i],c∈ib:=fun c hc=>by rw[← hfl];exact List.mem_flatten.2 ⟨_,List.getElem_mem hib,hc⟩
  have hsub2:∀ c∈(bss.set i []).flatten,c∈ib:=fun c hc=>by rw[← hfl];exact yH hc
  have rd:Rd (Sl 1 eG) w u y.domains bss[i]:=⟨by rw[hb0];exact hsl,fun c hc=>r1.mem c (hsub c hc)⟩
  have hole:Row 3 RLH E 0 w v ((xs.map .inl).set i (.inr (u,y.chosen))) rb (bss.set i []).flatten:=by
    refine⟨⟨cs,bss.set i [],by simpa using ho,by simp [hl],rfl,fun j z bj hy hbj=>?_⟩,r1.hrb,fun c hc=>r1.mem c (hsub2 c hc),fun c hc hc'=>r1.dj c hc (hsub2 c hc')⟩
    by_cases hji:j=i
    · subst hji
      rw[List.getElem?_set_self (by simpa using hil)] at hy;rw[List.getElem?_set_self hib] at hbj
      cases hy
      cases hbj
      exact⟨hu,hsl.one,k1,k2,k3,k4,rfl⟩
    · rw[List.getElem?_set_ne (fun e=>hji e.symm)] at hy hbj
      rw[List.getElem?_map,Option.map_eq_some_iff] at hy;obtain⟨z',hz,rfl⟩:=hy;exact hel j z' bj hz hbj
  refine⟨u,hil,?_⟩;refine Sep.um (tr (Z:=[]) (fun _ h=>nomatch h) (Only.refl _ _) (B:=pr (ow (V:=Sl 1 eG) u y.domains) (rl 3 RLH E v ((xs.map .inl).set i (.inr (u,y.chosen))))) (Y1:=Y) ⟨bss[i],rb++(bss.set i []).flatten,⟨bss[i],rd,⟨hnd.1,fun c hc=>hown.2 c (hsub c hc)⟩,fun c hc=>hc⟩,⟨rb,_,hole,⟨hnd.2.1,fun c hc=>hown.2 c (hsub2 c hc)⟩,fun c hc=>List.mem_append_left _ hc,fun c hc=>List.mem_append_right _ hc⟩,fun c hc hc'=>?_,fun c hc=>r3 c (hsub c hc),fun c hc=>?_⟩ (fun c hc=>hc.elim (n0 c) (n0 c)) (fun c hc=>⟨.inl hc,(hY c hc).1⟩))
  · rcases List.mem_append.1 hc' with h | h
    · exact r1.dj c h (hsub c hc)
    · exact hnd.2.2 c hc h
  · rcases List.mem_append.1 hc with h | h
    · exact r2 c h
    · exact r3 c (hsub2 c h)
theorem lz {xs:List l08Level} {i:Nat} {q:Value×Literal} (h:i<xs.length):((xs.map Sum.inl).set i (Sum.inr q):List (l08Level ⊕ (Value×Literal)))[i]?=some (.inr q):=List.getElem?_set_self (by simpa using h)
theorem Sep.lh {E:TypeId} {v u:Value} {zs:List (l08Level ⊕ (Value×Literal))} {i g m c:Nat} {ch:Literal} (H:Sep X N w0 w D) (j:Nat) (hj:D[j]?=some (rl 3 RLH E v zs)) (hv:v= .slice (some ⟨g,0,none⟩) m c) (hz:zs[i]?=some (.inr (u,ch))) :
    w.cell? ⟨g,i*3+0,none⟩=some u∧w.cell? ⟨g,i*3+1,none⟩=some (xF ch.var)∧w.cell? ⟨g,i*3+2,none⟩=some (xF ch.value)∧xS ch.var∧xS ch.value:=by
  obtain⟨Y,⟨rb,ib,r1,_,r2,r3⟩,hY,hN⟩:=H.g j hj;subst hv;obtain⟨cs,bss,ho,hl,hfl,he⟩:=r1.row;obtain⟨hil,_⟩:=List.getElem?_eq_some_iff.1 hz
  have hib:i<bss.length:=by omega
  have h0:=he i _ bss[i] hz (List.getElem?_eq_getElem hib)
  have hc:∀ q w',cs[i*3+q]?=some w'→w.cell? ⟨g,i*3+q,none⟩=some w':=fun q w' hq=>by
    have:=ho.cells (g:=g) rfl (i*3+q) w' hq;rw[dD] at this
    simpa using this
  exact⟨hc 0 _ h0.1,hc 1 _ h0.2.2.1,hc 2 _ h0.2.2.2.2.1,h0.2.2.2.1,h0.2.2.2.2.2.1⟩
theorem oLH {E t:TypeId} {x:Operand} {v u:Value} {zs:List (l08Level ⊕ (Value×Literal))} {i gg m c:Nat} {ch:Literal} (hag:∀ w,(isAgg t).run P w= .ok false w) (F:Sk a n L) (hc:aV ops n L g d=true) (he:ev L x=some (.pointer (some ⟨gg,i*3+0,none⟩))) (H:Sep X N w0 w D) (j:Nat) (hj:D[j]?=some (rl 3 RLH E v zs)) (hv:v= .slice (some ⟨gg,0,none⟩) m c) (hz:zs[i]?=some (.inr (u,ch)))
    (k:∀ a',Sk a' n ((d,u)::L)→wpList P ops Q rest a' w):wpList P ops Q (⟨some d,.load t x,ty,pos,af,g⟩::rest) a w:=
  kJ F hc (lC hag F he (H.lh j hj hv hz).1) k
theorem oLHc {E t:TypeId} {x:Operand} {v u:Value} {zs:List (l08Level ⊕ (Value×Literal))} {i gg m c:Nat} {ch:Literal} (hag:∀ w,(isAgg t).run P w= .ok true w) (hsz:∀ w,(sizeOf t).run P w= .ok 2 w) (F:Sk a n L) (hc:aV ops n L g d=true) (he:ev L x=some (.pointer (some ⟨gg,i*3+1,none⟩))) (H:Sep X N w0 w D) (j:Nat) (hj:D[j]?=some (rl 3 RLH E v zs)) (hv:v= .slice (some ⟨gg,0,none⟩) m c) (hz:zs[i]?=some (.inr (u,ch)))
    (k:∀ a',xS ch.var→xS ch.value→Sk a' n ((d,.agg #[xF ch.var,xF ch.value])::L)→wpList P ops Q rest a' w):wpList P ops Q (⟨some d,.load t x,ty,pos,af,g⟩::rest) a w:=by
  obtain⟨_,h1,h2,h3,h4⟩:=H.lh j hj hv hz;refine kJ (v:=.agg #[xF ch.var,xF ch.value]) F hc ?_ (fun a' F'=>k a' h3 h4 F')
  unfold execOp
  simp only[F.ev he]
  have hl:=run_loadCells_list (P:=P) w ⟨gg,i*3+1,none⟩ [xF ch.var,xF ch.value] (fun j v hj=>by
    match j,hj with
    | 0,hj=>cases hj;rw[dD];exact h1
    | 1,hj=>cases hj;rw[dD];exact h2
    | j+2,hj=>simp at hj)
  simp only[List.length_cons,List.length_nil,Nat.zero_add] at hl
  simp [Instr.loadAt,Instr.sureAddr,loadVar,hag,hsz,hl]
def okn {α:Type} {sz:Nat} {R:ER α} [hR:FrC sz R] (v:Value) (xss:List (List α)) (j:Nat) (u:Value):As:=
  ⟨N0,fun w Y=>(ow (V:=Sl 1 (vS sz R)) v xss).P w Y∧∃ gg o m c,v= .slice (some ⟨gg,o,none⟩) m c∧w.cell? ⟨gg,o+j,none⟩=some u∧gg∈Y,fun h h1 h2 hs=>
    ⟨(ow (V:=Sl 1 (vS sz R)) v xss).st h.1 h1 h2 hs,let ⟨gg,o,m,c,e1,e2,e3⟩:=h.2;⟨gg,o,m,c,e1,(iM (h1 gg e3) _).trans e2,e3⟩⟩⟩
section
variable {α:Type} {sz:Nat} {R:ER α} [hR:FrC sz R] {v u:Value} {xss:List (List α)} {j:Nat}
theorem Sep.ocw (H:Sep X N w0 w (okn (sz:=sz) (R:=R) v xss j u::D)):Sep X N w0 w (ow (V:=Sl 1 (vS sz R)) v xss::D):=by
  obtain⟨Y,h,hN,hY,tr⟩:=H.hd;exact tr (Z:=[]) (fun _ h=>nomatch h) (Only.refl _ _) (B:=ow (V:=Sl 1 (vS sz R)) v xss) (Y1:=Y) h.1 n0 (fun c hc=>⟨.inl hc,(hY c hc).1⟩)
theorem Sep.ocr (H:Sep X N w0 w D) (i:Nat) (hi:D[i]?=some (okn (sz:=sz) (R:=R) v xss j u)):Bo (All w) w (Sl 1 (vS sz R)) v xss:=by
  obtain⟨Y,⟨⟨bs,h,_,hs⟩,_⟩,hY,hN⟩:=H.g i hi;exact⟨bs,h,fun c hc=>hY c (hs c hc)⟩
theorem Sep.oce {l:List α} (H:Sep X N w0 w D) (i:Nat) (hi:D[i]?=some (okn (sz:=sz) (R:=R) v xss j u)) (hx:xss[j]?=some l):Bo (All w) w (Sl sz R) u l:=by
  obtain⟨Y,⟨⟨bs,h,_,hs⟩,gg,o,m,c,e1,e2,e3⟩,hY,hN⟩:=H.g i hi;subst e1;obtain⟨ad,c',e4,_,_,_,h4⟩:=h.r
  cases e4
  rcases h4 with ⟨rfl,_⟩ | ⟨b,o',bss,e5,rfl,he⟩
  · simp at hx
  cases e5
  have hj:=(List.getElem?_eq_some_iff.1 hx).1
  have hbj:j<bss.length:=by rw[he.1];exact hj
  obtain⟨u',h5,h6⟩:=he.2 j l bss[j] hx (List.getElem?_eq_getElem hbj);simp only[Nat.mul_one,Nat.add_zero] at h5;rw[e2] at h5
  cases h5
  have hsub:∀ q∈bss[j],q∈gg::bss.flatten:=fun q hq=>List.mem_cons_of_mem _ (List.mem_flatten.2 ⟨_,List.getElem_mem hbj,hq⟩);exact⟨bss[j],⟨h6,fun q hq=>h.m q (hsub q hq)⟩,fun q hq=>hY q (hs q (hsub q hq))⟩
theorem xQr {x:Operand} {t:TypeId} {p:Value} {l:List α} (hag:∀ w,(isAgg t).run P w= .ok false w) (F:Sk a n L) (hc:aV ops n L g d=true) (he:ev L x=some p) (H:Sep X N w0 w (ow (V:=Sl 1 (vS sz R)) v xss::D)) (hp:OPt v j p) (hx:xss[j]?=some l)
    (k:∀ a' u,Sep X N w0 w (okn (sz:=sz) (R:=R) v xss j u::D)→Sk a' n ((d,u)::L)→wpList P ops Q rest a' w):wpList P ops Q (⟨some d,.load t x,ty,pos,af,g⟩::rest) a w:=by
  obtain⟨Y,⟨bs,h,ho,hs⟩,hN,hY,tr⟩:=H.hd;obtain⟨gg,o,m,c,rfl,rfl⟩:=hp;have h':=h;obtain⟨ad,c',e4,_,_,_,h4⟩:=h.r
  cases e4
  rcases h4 with ⟨rfl,_⟩ | ⟨b,o',bss,e5,rfl,he2⟩
  · simp at hx
  cases e5
  have hj:=(List.getElem?_eq_some_iff.1 hx).1
  have hbj:j<bss.length:=by rw[he2.1];exact hj
  obtain⟨u',h5,h6⟩:=he2.2 j l bss[j] hx (List.getElem?_eq_getElem hbj);simp only[Nat.mul_one,Nat.add_zero] at h5;refine kJ F hc (lC hag F he h5) (fun a' F'=>k a' u' (tr (Z:=[]) (fun _ h=>nomatch h) (Only.refl _ _) (B:=okn (sz:=sz) (R:=R) _ xss j u') (Y1:=Y) ⟨⟨_,h',ho,hs⟩,gg,o,_,_,rfl,h5,hs gg (by simp)⟩ n0 (fun c hc=>⟨.inl hc,(hY c hc).1⟩)) F')
end
end
end Go.Proofs.YtfmnjkpddljdcaaGreatDoor
