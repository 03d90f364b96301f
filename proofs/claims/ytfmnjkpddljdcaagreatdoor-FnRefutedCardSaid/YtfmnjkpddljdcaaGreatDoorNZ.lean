import Derived.Test.YtfmnjkpddljdcaaGreatDoorNG
import Derived.Test.YtfmnjkpddljdcaaGreatDoorNC
namespace Go.Proofs.YtfmnjkpddljdcaaGreatDoor
set_option linter.unusedVariables false
set_option linter.unusedSimpArgs false
open Go.RowKit
def rz (N:Nat→Prop) {α:Type} (sz:Nat) (R:ER α) [hR:FrC sz R] (E:TypeId) (v:Value) (xs:List α):As:=
  ⟨N,fun w Y=>∃ rb ib,Row sz R E 0 w v xs rb ib∧(∀ c∈rb,c∈Y)∧∀ c∈ib,N c,fun h h1 h2 hs=>by
    obtain⟨rb,ib,h3,h4,h5⟩:=h
    exact⟨rb,ib,h3.keep (fun c hc=>h1 c (h4 c hc)) (fun c hc=>h2 c (h5 c hc)) hs,h4,h5⟩⟩
def Bz {α:Type} (M N:Nat→Prop) (w:World) (sz:Nat) (R:ER α) (v:Value) (l:List α):Prop:=∃ bs,Rd (Sl sz R) w v l bs∧∀ b r,bs=b::r→M b∧∀ c∈r,N c
def Pz {α:Type} (M N:Nat→Prop) (w:World) (sz:Nat) (R:ER α) (p:Value) (y:α):Prop:=∃ b bi,Rd (Pt sz R) w p y (b::bi)∧M b∧∀ c∈bi,N c
section
variable {M N:Nat→Prop} {w:World} {α:Type} {sz:Nat} {R:ER α} {v p:Value} {l:List α} {y:α}
theorem Bz.bo (h:Bz M N w sz R v l) (hs:∀ c,N c→M c):Bo M w (Sl sz R) v l:=by
  obtain⟨bs,h1,h2⟩:=h;refine⟨bs,h1,fun c hc=>?_⟩
  cases bs with
  | nil=>cases hc
  | cons b r=>
    obtain⟨h3,h4⟩:=h2 b r rfl
    rcases List.mem_cons.1 hc with rfl | hc
    · exact h3
    · exact hs c (h4 c hc)
theorem Row.bz [hR:FrC sz R] {E:TypeId} {B:Nat} {rb ib:List Nat} (h:Row sz R E B w v l rb ib) (h1:∀ c∈rb,M c) (h2:∀ c∈ib,N c):Bz M N w sz R v l:=by
  have hr:=h.rd;obtain⟨xs,bss,ho,hl,hfl,he⟩:=h.row;have hrb:=h.hrb
  rcases ho.2 with ⟨rfl,hn⟩ | ⟨g,cap,cur,rfl,_⟩
  · refine⟨[],?_,fun b r e=>by cases e⟩
    have e:l=[]:=List.length_eq_zero_iff.1 hn;subst e;exact Rd.nil sz R w
  · have e:rb=[g]:=by rw[hrb];simp [tC,Value.ownBlock]
    subst e
    exact⟨_,hr,fun b r e=>by
      simp at e
      obtain⟨rfl,rfl⟩:=e
      exact⟨h1 _ (by simp),h2⟩⟩
theorem Rdg.zd [hR:FrC sz R] {N1:Nat→Prop} {E:TypeId} (h:Rdg N1 w (rz N sz R E v l)):Bz N1 N w sz R v l:=
  let ⟨_,⟨_,_,h1,h2,h3⟩,h4,_⟩:=h;h1.bz (fun c hc=>h4 c (h2 c hc)) h3
theorem Rdg.rzd [hR:FrC sz R] {N1:Nat→Prop} {E:TypeId} (h:Rdg N1 w (rz N sz R E v l)):Bo N1 w (Sl sz R) v l:=h.zd.bo (let ⟨_,_,_,h5⟩:=h;h5)
end
section
variable {X:List Nat} {N M:Nat→Prop} {w0 w:World} {L:List As} {α:Type} {sz:Nat} {R:ER α} [hR:FrC sz R] {E:TypeId} {v:Value} {l:List α}
theorem Sep.rz (H:Sep X N w0 w L) (i:Nat) (hi:L[i]?=some (Go.Proofs.YtfmnjkpddljdcaaGreatDoor.rz M sz R E v l)):Bo (All w) w (Sl sz R) v l:=(H.g i hi).rzd
theorem Sep.z (H:Sep X N w0 w L) (i:Nat) (hi:L[i]?=some (Go.Proofs.YtfmnjkpddljdcaaGreatDoor.rz M sz R E v l)):Bz (All w) M w sz R v l:=(H.g i hi).zd
theorem Sep.zw (H:Sep X N w0 w (Go.Proofs.YtfmnjkpddljdcaaGreatDoor.rz M sz R E v l::L)):Sep X N w0 w (rw M sz R E v l::L):=by
  obtain⟨Y,⟨rb,ib,r1,r2,r3⟩,hN,hY,tr⟩:=H.hd;exact tr (Z:=[]) (fun _ h=>nomatch h) (Only.refl _ _) (B:=rw M sz R E v l) (Y1:=Y) ⟨rb,ib,r1,r2,fun c hc=>.inr (r3 c hc)⟩ hN (fun c hc=>⟨.inl hc,(hY c hc).1⟩)
theorem Sep.spl (H:Sep X N w0 w (rw M sz R E v l::L)):∃ (X1:List Nat) (N1:Nat→Prop),Lf N w0 N1 w∧Sep X1 N1 w w (Go.Proofs.YtfmnjkpddljdcaaGreatDoor.rz N1 sz R E v l::L) ∧
    ((∀ {w':World} {K:List As},Sep X1 N1 w w' K→(∀ B∈K,∀ c,B.N c→N c)→Sep X N w0 w' K)∧(N=N)∧(∀ c,N c→N1 c)) ∧
    (∀ {f:(Nat→Prop)→As},Ab f→∀ {w':World} {K:List As},Sep X1 N1 w w' (f N1::K)→(∀ B∈K,∀ c,B.N c→N c)→Sep X N w0 w' (f N::K)):=by
  obtain⟨Y,h1,h2⟩:=H.ex;obtain⟨⟨rb,ib,r1,r2,r3⟩,h4,h5⟩:=h1 0 _ rfl
  have hmem:∀ c,c∈(rb++(List.range L.length).flatMap (fun i=>Y (i+1)))↔c∈rb∨∃ i,i<L.length∧c∈Y (i+1):=fun c=>by simp
  have own:∀ i,i<L.length→∀ c∈Y (i+1),c<w.heap.size∧(c∈X∨w0.heap.size≤c):=fun i hi c hc=>(h1 (i+1) L[i] (by simp [hi])).2.2 c hc;have hib:∀ c∈ib,c<w.heap.size:=r1.mem
  have hX1X:∀ c,c∈(rb++(List.range L.length).flatMap (fun i=>Y (i+1)))→c∈X∨w0.heap.size≤c:=fun c hc=>by
    rcases(hmem c).1 hc with h | ⟨i,hi,h⟩
    · exact(h5 c (r2 c h)).2
    · exact(own i hi c h).2
  have hnot:∀ c,(N c∨c∈ib)→c ∉ (rb++(List.range L.length).flatMap (fun i=>Y (i+1))):=fun c hc hm=>by
    have hNo:N c→False:=fun hn=>Sep.own (i:=0) (hX1X c hm) H hn
    rcases hc with hc | hc
    · exact hNo hc
    · rcases(hmem c).1 hm with h | ⟨i,hi,h⟩
      · exact r1.dj c h hc
      · rcases r3 c hc with h6 | h6
        · exact h2 0 (i+1) (by simp) (by simp [hi]) (by omega) c h6 h
        · exact hNo (h4 c h6)
  have fr:∀ {w':World} {K:List As},Sep (rb++(List.range L.length).flatMap (fun i=>Y (i+1))) (fun c=>N c∨c∈ib) w w' K→Only X w0 w':=fun {w' K} S=>
    ⟨S.fr.os.trans H.fr.os,S.fr.tape.trans H.fr.tape,S.fr.output.trans H.fr.output,Nat.le_trans H.fr.size S.fr.size,fun k hk hn=>by
      rw[S.fr.block k (Nat.lt_of_lt_of_le hk H.fr.size) (fun hm=>by rcases hX1X k hm with h | h;exact hn h;omega),H.fr.block k hk hn]⟩
  refine⟨rb++(List.range L.length).flatMap (fun i=>Y (i+1)),fun c=>N c∨c∈ib,fun h=>(h.to H.sm).mono (fun c hc=>.inl hc),⟨Only.refl _ _,fun c hc=>⟨?_,hnot c hc⟩,fun i=>match i with | 0=>rb | i+1=>Y (i+1),fun i B hi=>?_,fun i j hi hj hij=>?_⟩,⟨fun {w' K} S hN=>?_,rfl,fun c hc=>.inl hc⟩,fun {f} hf {w' K} S hN=>?_⟩
  · rcases hc with hc | hc
    · exact Nat.lt_of_lt_of_le (H.nb c hc).1 H.fr.size
    · exact hib c hc
  · cases i with
    | zero=>
      simp at hi
      subst hi;exact⟨⟨rb,ib,r1,fun c hc=>hc,fun c hc=>.inr hc⟩,fun c hc=>hc,fun c hc=>⟨(h5 c (r2 c hc)).1,.inl ((hmem c).2 (.inl hc))⟩⟩
    | succ i=>
      obtain⟨h6,h7,h8⟩:=h1 (i+1) B (by simpa using hi);have hlt:=(List.getElem?_eq_some_iff.1 (by simpa using hi:L[i]?=some B)).1;exact⟨h6,fun c hc=>.inl (h7 c hc),fun c hc=>⟨(h8 c hc).1,.inl ((hmem c).2 (.inr ⟨i,hlt,hc⟩))⟩⟩
  · have key:∀ k,k<L.length→Dj rb (Y (k+1)):=fun k hk c hc hc'=>h2 0 (k+1) (by simp) (by simp [hk]) (by omega) c (r2 c hc) hc'
    cases i with
    | zero=>
      cases j with
      | zero=>exact absurd rfl hij
      | succ j=>exact key j (by simpa using hj)
    | succ i=>
      cases j with
      | zero=>exact(key i (by simpa using hi)).symm
      | succ j=>exact h2 (i+1) (j+1) (by simpa using hi) (by simpa using hj) (by omega)
  · obtain⟨Z,g1,g2⟩:=S.ex
    refine⟨fr S,H.nb,Z,fun i B hi=>?_,g2⟩;obtain⟨g3,g4,g5⟩:=g1 i B hi;refine⟨g3,hN B (List.mem_of_getElem? hi),fun c hc=>⟨(g5 c hc).1,?_⟩⟩
    rcases(g5 c hc).2 with h | h
    · exact hX1X c h
    · exact .inr (Nat.le_trans H.fr.size h)
  · obtain⟨Z,g1,g2⟩:=S.ex
    have g0:=g1 0 _ rfl
    have hlen:(f N::K).length=(f (fun c=>N c∨c∈ib)::K).length:=by simp
    have hY:∀ c,c∈ib.filter (fun c=>decide (c∈Y 0))→c∈ib∧c∈Y 0:=fun c hc=>by simpa using hc
    have key:∀ k,k<(f (fun c=>N c∨c∈ib)::K).length→Dj (ib.filter (fun c=>decide (c∈Y 0))) (Z k):=fun k hk c hc hc'=>by
      obtain⟨q1,q2⟩:=hY c hc
      rcases((g1 k _ (List.getElem?_eq_getElem hk)).2.2 c hc').2 with h | h
      · exact hnot c (.inr q1) h
      · have:=hib c q1
        omega
    refine⟨fr S,H.nb,fun i=>match i with | 0=>Z 0++ib.filter (fun c=>decide (c∈Y 0)) | i+1=>Z (i+1),fun i B hi=>?_,fun i j hi hj hij=>?_⟩
    · cases i with
      | zero=>
        simp at hi
        subst hi;refine⟨hf.2 (fun c h=>?_) g0.1,fun c hc=>hf.1 _ c hc,fun c hc=>?_⟩
        · rcases h with h | h
          · exact .inl h
          · rcases r3 c h with h6 | h6
            · exact .inr (by simp [h,h6])
            · exact .inl (h4 c h6)
        · rcases List.mem_append.1 hc with hc | hc
          · refine⟨(g0.2.2 c hc).1,?_⟩
            rcases(g0.2.2 c hc).2 with h | h
            · exact hX1X c h
            · exact .inr (Nat.le_trans H.fr.size h)
          · obtain⟨q1,q2⟩:=hY c hc
            exact⟨Nat.lt_of_lt_of_le (h5 c q2).1 S.fr.size,(h5 c q2).2⟩
      | succ i=>
        have hi':K[i]?=some B:=by simpa using hi
        obtain⟨g3,g4,g5⟩:=g1 (i+1) B (by simpa using hi');refine⟨g3,hN B (List.mem_of_getElem? hi'),fun c hc=>⟨(g5 c hc).1,?_⟩⟩
        rcases(g5 c hc).2 with h | h
        · exact hX1X c h
        · exact .inr (Nat.le_trans H.fr.size h)
    · rw[hlen] at hi hj
      cases i with
      | zero=>
        cases j with
        | zero=>exact absurd rfl hij
        | succ j=>exact Dj.app' (g2 0 (j+1) hi hj (by omega)) (key (j+1) hj)
      | succ i=>
        cases j with
        | zero=>exact(Dj.app' (g2 0 (i+1) hj hi (by omega)) (key (i+1) hi)).symm
        | succ j=>exact g2 (i+1) (j+1) hi hj hij
end
theorem Sm.symm {N:Nat→Prop} {w w':World} (h:Sm N w w'):Sm N w' w:=⟨fun c hc=>(h.blk c hc).symm⟩
section
variable {P:Program} {a:Act} {w w1:World} {n:Nat} {L:List (Nat×Value)} {d:Option Tmp} {ty:TypeId} {pos:String} {af:Array Edge} {g:Option (Nat×Bool)} {M N:Nat→Prop}
theorem xRt {α:Type} {sz:Nat} {R:ER α} {x iy:Operand} {t:TypeId} {v:Value} {l:List α} {e:TypeId} {i:Int} {y:α} (ht:P.underlying t=some (.slice e)) (hsz:∀ w,(sizeOf e).run P w= .ok sz w)
    (F:Sk a n L) (he:ev L x=some v) (hi:ev L iy=some (.int .i64 i)) (h:Bz M N w1 sz R v l) (hix:ix l i=some y) :
    ∃ p,(∀ w',(execOp a.eval ⟨d,.indexAddr t x iy,ty,pos,af,g⟩).run P w'= .ok (.value p) w')∧Pz M N w1 sz R p y:=by
  obtain⟨bs,hr0,hb⟩:=h;obtain⟨h0,hy⟩:=sL hix;obtain⟨hk,rfl⟩:=List.getElem?_eq_some_iff.1 hy;obtain⟨a',c',rfl,h1,h2,h3,h4⟩:=hr0.r.open;obtain⟨b,o,bss,bi,rfl,rfl,_,hbi,hs,hr⟩:=h4 i.toNat hk;obtain⟨q1,q2⟩:=hb b _ rfl;refine⟨.pointer (some ⟨b,o+i.toNat*sz,none⟩),fun w'=>?_,b,bi,⟨⟨b,_,bi,rfl,rfl,hr⟩,fun c hc=>?_⟩,q1,fun c hc=>q2 c (List.mem_flatten.2 ⟨_,List.mem_of_getElem? hbi,hc⟩)⟩
  · have hadd:=dD b o (i.toNat*sz)
    unfold execOp
    simp only[F.ev he,F.ev hi]
    have hil:i<(l.length:Int):=by omega
    simp [Instr.indexAt,run_underlying ht,asIntOf,h0,hil,hsz,hadd]
  · rcases List.mem_cons.1 hc with rfl | hc
    · exact hr0.m _ (by simp)
    · exact hr0.m _ (hs c hc)
end
section
variable {P:Program} {ops:Array Oper} {Q:Exit→Act→World→Prop} {a:Act} {w w0 w1:World} {n:Nat} {L:List (Nat×Value)} {rest:List Oper} {d:Nat} {ty:TypeId} {pos:String} {af:Array Edge} {g:Option (Nat×Bool)} {M N:Nat→Prop} {C:World→Prop} {K:Act→Prop}
theorem oIz {α:Type} {sz:Nat} {R:ER α} {x iy:Operand} {t:TypeId} {v:Value} {l:List α} {e:TypeId} {i:Int} {y:α} (ht:P.underlying t=some (.slice e)) (hsz:∀ w,(sizeOf e).run P w= .ok sz w)
    (F:Sk a n L) (hc:aV ops n L g d=true) (he:ev L x=some v) (hi:ev L iy=some (.int .i64 i)) (h:Bz M N w1 sz R v l) (hix:ix l i=some y)
    (k:∀ a' p,Pz M N w1 sz R p y→Sk a' n ((d,p)::L)→wpList P ops Q rest a' w):wpList P ops Q (⟨some d,.indexAddr t x iy,ty,pos,af,g⟩::rest) a w:=
  let ⟨p,hr,hp⟩:=xRt ht hsz F he hi h hix;kJ F hc (hr w) (fun a' F'=>k a' p hp F')
end
end Go.Proofs.YtfmnjkpddljdcaaGreatDoor
namespace Go.Proofs.YtfmnjkpddljdcaaGreatDoor
set_option linter.unusedVariables false
set_option linter.unusedSimpArgs false
open Go.RowKit
section
variable {P:Program} {ops:Array Oper} {Q:Exit→Act→World→Prop} {a:Act} {w w0 w1:World} {n:Nat} {L:List (Nat×Value)} {rest:List Oper} {d:Nat} {ty:TypeId} {pos:String} {af:Array Edge} {g:Option (Nat×Bool)} {M N N1:Nat→Prop} {X:List Nat} {D:List As}
theorem xTf {α:Type} {sz:Nat} {R:ER α} [hR:FrC sz R] {x:Operand} {t:TypeId} {p:Value} {y:α} (hag:∀ w,(isAgg t).run P w= .ok true w) (hsz:∀ w,(sizeOf t).run P w= .ok sz w) (F:Sk a n L) (hc:aV ops n L g d=true) (he:ev L x=some p) (s:Sm M w1 w) (h:Pz M N w1 sz R p y)
    (k:∀ a' v,Bo N w1 (aY sz R) v y→Sk a' n ((d,v)::L)→wpList P ops Q rest a' w):wpList P ops Q (⟨some d,.load t x,ty,pos,af,g⟩::rest) a w:=by
  obtain⟨b0,bi0,⟨⟨b,o,bi,rfl,hbs,hr⟩,hm⟩,hM,hN⟩:=h;obtain⟨rfl,rfl⟩:=List.cons.inj hbs;have ht:=hR.tot _ _ _ _ hr
  have hb:Bo N w1 (aY sz R) (.agg ((List.range sz).map (fun j=>(w1.cell? ⟨b0,o+j,none⟩).getD undef)).toArray) y:=
    ⟨bi0,⟨aY.of_cells hR.fr hr _ (by simp) (fun j hj=>by
      rw[List.getElem?_map,List.getElem?_range hj];obtain⟨u,hu,_⟩:=ht j hj;rw[Option.map_some,hu]
      rfl),fun c hc=>hm c (by simp [hc])⟩,hN⟩
  refine kJ F hc ?_ (fun a' F'=>k a' _ hb F')
  unfold execOp
  simp only[F.ev he]
  have hl:=run_loadCells_list (P:=P) w ⟨b0,o,none⟩ ((List.range sz).map (fun j=>(w1.cell? ⟨b0,o+j,none⟩).getD undef)) (fun j v hj=>by
      rw[List.getElem?_map] at hj
      have hjs:j<sz:=by
        cases h:(List.range sz)[j]? with
        | none=>simp [h] at hj
        | some k=>simpa using (List.getElem?_eq_some_iff.1 h).1
      rw[List.getElem?_range hjs] at hj;obtain⟨u,hu,_⟩:=ht j hjs;have hadd:=dD b0 o j;rw[hadd,iM (s.blk b0 hM),hu];rw[Option.map_some,hu] at hj
      exact hj)
  rw[List.length_map,List.length_range] at hl
  simp [Instr.loadAt,Instr.sureAddr,loadVar,hag,hsz,hl]
theorem xPy {α:Type} {sz:Nat} {R:ER α} [hR:FrC sz R] {t e:TypeId} {z:Value} {x:Operand} {v:Value} {y:α} (ht:P.underlying t=some (.slice e)) (hsz:∀ w,(sizeOf e).run P w= .ok sz w) (hz:∀ w,(zeroValue e).run P w= .ok z w) (hzs:z.cells.size=sz) (hb:(Nat.blt 0 sz && Nat.ble sz 1000)=true) (F:Sk a n L) (hc:aV ops n L g d=true)
    (hx:ev L x=some v) (H:Sep X N w0 w D) (h1:∀ c,N1 c→N c) (h:Eo N1 w sz R v y)
    (k:∀ a' w' v',Sep X N w0 w' (rz N1 sz R e v' [y]::D)→Sk a' n ((d,v')::L)→wpList P ops Q rest a' w'):wpList P ops Q (⟨some d,.buildSlice t 1 #[(0,x)],ty,pos,af,g⟩::rest) a w:=by
  rw[Bool.and_eq_true] at hb;obtain⟨bs,h2,h3⟩:=h;exact xGk ht hsz hz hzs (Nat.le_of_ble_eq_true hb.1) (Nat.le_of_ble_eq_true hb.2) F hc hx h2 (fun a' w' v' rb r l F'=>k a' w' v' (H.push l (A:=rz N1 sz R e v' [y]) (Y0:=rb) ⟨rb,bs,r.base (Nat.zero_le _),fun _ hc=>hc,h3⟩ h1 (fun c hc=>⟨(r.blk c hc).1,r.memR c hc⟩)) F')
theorem oPz {α:Type} {sz:Nat} {R:ER α} [hR:FrC sz R] {x y:Operand} {t E E':TypeId} {z:Value} {bytes:Nat} {v u:Value} {l m r:List α} (ht:P.underlying t=some (.slice E)) (hinfo:(P.info? E).map (fun i=>(i.zero,i.size,i.bytes))=some (some z,sz,bytes)) (hzs:z.cells.size=sz) (hb:(Nat.blt 0 sz && (Nat.ble bytes 1024 && Nat.blt 0 bytes))=true)
    (F:Sk a n L) (hc:aV ops n L g d=true) (hx:ev L x=some v) (hy:ev L y=some u) (H:Sep X N w0 w (rz N1 sz R E v l::rz N1 sz R E' u m::D)) (hap:ap l m=some r)
    (k:∀ a' w' v',Sep X N w0 w' (rz N1 sz R E v' r::D)→Sk a' n ((d,v')::L)→wpList P ops Q rest a' w'):wpList P ops Q (⟨some d,.call ⟨.builtin .append,#[x,y],#[t,t]⟩,ty,pos,af,g⟩::rest) a w:=by
  simp only[Bool.and_eq_true] at hb;obtain⟨Y,⟨Y1,Y2,⟨rb,ib,r1,r2,r3⟩,⟨rb2,ib2,s1,s2,s3⟩,dj,y1,y2⟩,hN,hY,tr⟩:=H.mg.hd;have hN1:∀ c,N1 c→N c:=fun c hc=>hN c (.inl hc);refine xAd ht hinfo hzs (Nat.le_of_ble_eq_true hb.1) (Nat.le_of_ble_eq_true hb.2.1) (Nat.le_of_ble_eq_true hb.2.2) F hc hx hy r1 s1.src (Nat.zero_le _) (fun c hc hc2=>(hY c (y1 c (r2 c hc))).2 (hN1 c (s3 c hc2))) hap (fun a' w' v' rb' q o hn F'=>k a' w' v' (tr (Z:=rb) (fun c hc=>y1 c (r2 c hc)) o (B:=rz N1 sz R E v' r) (Y1:=Y++rb') ⟨rb',ib++ib2,q,fun c hc=>List.mem_append_right _ hc,fun c hc=>?_⟩ hN1 (fun c hc=>?_)) F')
  · rcases List.mem_append.1 hc with hc | hc
    · exact r3 c hc
    · exact s3 c hc
  · rcases List.mem_append.1 hc with hc | hc
    · exact⟨.inl hc,Nat.lt_of_lt_of_le (hY c hc).1 o.size⟩
    · exact⟨xHb (w':=w') (fun c hc=>y1 c (r2 c hc)) hn hc,q.memR c hc⟩
end
end Go.Proofs.YtfmnjkpddljdcaaGreatDoor
