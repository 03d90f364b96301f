import Derived.Test.YtlommebgedmjdaaGreatDoorNA
import Derived.Test.YtlommebgedmjdaaGreatDoorTS
import Derived.Test.YtlommebgedmjdaaGreatDoorUX
namespace Go.Proofs.YtlommebgedmjdaaGreatDoor
set_option linter.unusedVariables false
set_option linter.unusedSimpArgs false
open Go.RowKit
theorem bs {α β:Type} {o:Option α} {k:α→Option β} {r:β} {G:Prop} (h:xK o k=some r) (g:∀ x,o=some x→k x=some r→G):G:=let ⟨x,h1,h2⟩:=fE h;g x h1 h2
theorem z0:∀ c,N0 c→False:=fun _ h=>h
theorem n0 {N:Nat→Prop}:∀ c,N0 c→N c:=fun _ h=>h.elim
theorem n1 {N:Nat→Prop}:∀ c,N c→N c:=fun _ h=>h
def Ns (N:Nat→Prop):List As→Prop
  | []=>True
  | A::r=>(∀ c,A.N c→N c)∧Ns N r
theorem Ns.all {N:Nat→Prop}:∀ {K:List As},Ns N K→∀ A∈K,∀ c,A.N c→N c
  | [],_,_,h,_,_=>nomatch h
  | B::r,h,A,hA,c,hc=>(List.mem_cons.1 hA).elim (fun e=>h.1 c (e ▸ hc)) (fun e=>Ns.all h.2 A e c hc)
theorem rw_m {N:Nat→Prop} {α:Type} {sz:Nat} {R:ER α} [hR:FrC sz R] {E:TypeId} {v:Value} {xs:List α} {w:World} {rb ib:List Nat} (h:Row sz R E 0 w v xs rb ib) (hi:∀ c∈ib,N c):(rw N sz R E v xs).P w rb:=⟨rb,ib,h,fun _ hc=>hc,fun c hc=>.inr (hi c hc)⟩
section
variable {P:Program} {a:Act} {w w1:World} {n:Nat} {L:List (Nat×Value)} {d:Option Tmp} {ty:TypeId} {pos:String} {af:Array Edge} {g:Option (Nat×Bool)} {M:Nat→Prop}
theorem xJz {α:Type} {sz:Nat} {R:ER α} {x iy:Operand} {t:TypeId} {v:Value} {l:List α} {e:TypeId} {i:Int} {y:α} (ht:P.underlying t=some (.slice e)) (hsz:∀ w,(sizeOf e).run P w= .ok sz w)
    (F:Sk a n L) (he:ev L x=some v) (hi:ev L iy=some (.int .i64 i)) (h:Bo M w1 (Sl sz R) v l) (hix:ix l i=some y) :
    ∃ p,(∀ w',(execOp a.eval ⟨d,.indexAddr t x iy,ty,pos,af,g⟩).run P w'= .ok (.value p) w')∧Bo M w1 (Pt sz R) p y:=by
  obtain⟨bs,h1,h2⟩:=h;obtain⟨p,bi,hr,h3,h4⟩:=xPn (d:=d) (ty:=ty) (pos:=pos) (af:=af) (g:=g) ht hsz F he hi h1 hix;exact⟨p,hr,bi,h3,fun c hc=>h2 c (h4 c hc)⟩
theorem xJa {α β:Type} {sz s':Nat} {R:ER α} {R':ER β} {x:Operand} {t:TypeId} {kk:Nat} {p:Value} {y:α} {z:β} {off:Nat} (hp:∀ (a:Addr) w,(Instr.fieldAt t (.pointer (some a)) kk).run P w= .ok (.pointer (some (a.add off))) w)
    (F:Sk a n L) (he:ev L x=some p) (h:Bo M w1 (Pt sz R) p y) (hf:∀ f bi,R w1 f y bi→∃ bj,R' w1 (fun j=>f (off+j)) z bj∧∀ c∈bj,c∈bi) :
    ∃ p',(∀ w',(execOp a.eval ⟨d,.fieldAddr t x kk,ty,pos,af,g⟩).run P w'= .ok (.value p') w')∧Bo M w1 (Pt s' R') p' z:=by
  obtain⟨bs,h1,h2⟩:=h;obtain⟨p',bj,hr,h3,h4⟩:=xVn (d:=d) (ty:=ty) (pos:=pos) (af:=af) (g:=g) (s':=s') hp F he h1 hf;exact⟨p',hr,bj,h3,fun c hc=>h2 c (h4 c hc)⟩
theorem xSx {x:Operand} {t:TypeId} {p:Value} {y:Int} (hag:∀ w,(isAgg t).run P w= .ok false w) (F:Sk a n L) (he:ev L x=some p) (h:Bo M w1 (Pt 1 xG) p y) :
    xH y∧∀ w',Sm M w1 w'→(execOp a.eval ⟨d,.load t x,ty,pos,af,g⟩).run P w'= .ok (.value (.int .i64 y)) w':=
  ⟨let ⟨_,h1,_⟩:=h;h1.i64,fun w' s=>let ⟨_,h1,_⟩:=h.to s;xXg hag F he h1⟩
theorem xSy {x:Operand} {t:TypeId} {p:Value} {y:UInt8} (hag:∀ w,(isAgg t).run P w= .ok false w) (F:Sk a n L) (he:ev L x=some p) (h:Bo M w1 (Pt 1 aW) p y) :
    ∀ w',Sm M w1 w'→(execOp a.eval ⟨d,.load t x,ty,pos,af,g⟩).run P w'= .ok (.value (.int .u8 y.toNat)) w':=fun w' s=>let ⟨_,h1,_⟩:=h.to s;xWi hag F he h1
theorem xXs {x:Operand} {t:TypeId} {p:Value} {y:ByteArray} (hag:∀ w,(isAgg t).run P w= .ok false w) (F:Sk a n L) (he:ev L x=some p) (h:Bo M w1 (Pt 1 rV) p y) :
    y.size≤maxLen∧∀ w',Sm M w1 w'→(execOp a.eval ⟨d,.load t x,ty,pos,af,g⟩).run P w'= .ok (.value (.string y)) w':=
  ⟨let ⟨_,h1,_⟩:=h;let ⟨⟨_,_,_,_,_,hr⟩,_⟩:=h1;hr.2.1,fun w' s=>let ⟨_,h1,_⟩:=h.to s;xWf hag F he h1⟩
theorem oAk {α:Type} {sz:Nat} {R:ER α} {x:Operand} {t:TypeId} {p:Value} {y:List α} (hag:∀ w,(isAgg t).run P w= .ok false w) (F:Sk a n L) (he:ev L x=some p) (h:Bo M w1 (Pt 1 (fG sz R)) p y) :
    ∃ v,Bo M w1 (Sl sz R) v y∧∀ w',Sm M w1 w'→(execOp a.eval ⟨d,.load t x,ty,pos,af,g⟩).run P w'= .ok (.value v) w':=by
  obtain⟨bs,⟨⟨b,o,bi,rfl,rfl,v,h0,hr⟩,hm⟩,hN⟩:=h;refine⟨v,⟨bi,⟨hr,fun c hc=>hm c (by simp [hc])⟩,fun c hc=>hN c (by simp [hc])⟩,fun w' s=>nY hag F he ?_⟩;rw[jR (s.blk b (hN b (by simp)))]
  simpa using h0
theorem xXu {α:Type} {sz:Nat} {R:ER α} {x:Operand} {t:TypeId} {p:Value} {y:α} (hag:∀ w,(isAgg t).run P w= .ok false w) (F:Sk a n L) (he:ev L x=some p) (h:Bo M w1 (Pt 1 (RP sz R)) p y) :
    ∃ v,Bo M w1 (Pt sz R) v y∧∀ w',Sm M w1 w'→(execOp a.eval ⟨d,.load t x,ty,pos,af,g⟩).run P w'= .ok (.value v) w':=by
  obtain⟨bs,⟨⟨b,o,bi,rfl,rfl,v,h0,hr⟩,hm⟩,hN⟩:=h;refine⟨v,⟨bi,⟨hr,fun c hc=>hm c (by simp [hc])⟩,fun c hc=>hN c (by simp [hc])⟩,fun w' s=>nY hag F he ?_⟩;rw[jR (s.blk b (hN b (by simp)))]
  simpa using h0
theorem xSh {α:Type} {sz:Nat} {R:ER α} [hR:FrC sz R] {x:Operand} {t:TypeId} {p:Value} {y:α} (hag:∀ w,(isAgg t).run P w= .ok true w) (hsz:∀ w,(sizeOf t).run P w= .ok sz w) (F:Sk a n L) (he:ev L x=some p) (h:Bo M w1 (Pt sz R) p y) :
    ∃ v,Bo M w1 (qG sz R) v y∧∀ w',Sm M w1 w'→(execOp a.eval ⟨d,.load t x,ty,pos,af,g⟩).run P w'= .ok (.value v) w':=by
  obtain⟨bs,⟨⟨b,o,bi,rfl,rfl,hr⟩,hm⟩,hN⟩:=h;have ht:=hR.tot _ _ _ _ hr;refine⟨.agg ((List.range sz).map (fun j=>(w1.cell? ⟨b,o+j,none⟩).getD undef)).toArray,⟨bi,⟨qG.of_cells hR.fr hr _ (by simp) (fun j hj=>?_),fun c hc=>hm c (by simp [hc])⟩,fun c hc=>hN c (by simp [hc])⟩,fun w' s=>?_⟩
  · rw[List.getElem?_map,List.getElem?_range hj]
    obtain⟨u,hu,_⟩:=ht j hj;rw[Option.map_some,hu]
    rfl
  · unfold execOp
    simp only[F.ev he]
    have hl:=run_loadCells_list (P:=P) w' ⟨b,o,none⟩ ((List.range sz).map (fun j=>(w1.cell? ⟨b,o+j,none⟩).getD undef)) (fun j v hj=>by
      rw[List.getElem?_map] at hj
      have hjs:j<sz:=by
        cases h:(List.range sz)[j]? with
        | none=>simp [h] at hj
        | some k=>simpa using (List.getElem?_eq_some_iff.1 h).1
      rw[List.getElem?_range hjs] at hj;obtain⟨u,hu,_⟩:=ht j hjs;have hadd:=iF b o j;rw[hadd,jR (s.blk b (hN b (by simp))),hu];rw[Option.map_some,hu] at hj
      exact hj)
    rw[List.length_map,List.length_range] at hl
    simp [Instr.loadAt,Instr.sureAddr,loadVar,hag,hsz,hl]
theorem Bo.slen {α:Type} {sz:Nat} {R:ER α} {v:Value} {l:List α} (h:Bo M w1 (Sl sz R) v l):xH (l.length:Int):=let ⟨_,h1,_⟩:=h;h1.r.len64
theorem Bo.snil {α:Type} {sz:Nat} {R:ER α}:Bo M w1 (Sl sz R) (.slice none 0 0) []:=⟨[],Rd.nil sz R w1,fun _ h=>nomatch h⟩
theorem xUu {α:Type} {sz:Nat} {R:ER α} {x:Operand} {p:Value} {y:α} (F:Sk a n L) (e:ev L x=some p) (h:Bo M w1 (Pt sz R) p y) (w':World):(execOp a.eval ⟨d,.nilCheck x,ty,pos,af,g⟩).run P w'= .ok (.value p) w':=by
  obtain⟨_,⟨⟨b,o,bi,rfl,_⟩,_⟩,_⟩:=h;exact sR F e
theorem xXh {α:Type} {sz:Nat} {R:ER α} {x:Operand} {t:TypeId} {v:Value} {l:List α} {e:TypeId} (ht:P.underlying t=some (.slice e)) (F:Sk a n L) (he:ev L x=some v) (h:Bo M w1 (Sl sz R) v l) (w':World) :
    (execOp a.eval ⟨d,.call ⟨.builtin .len,#[x],#[t]⟩,ty,pos,af,g⟩).run P w'= .ok (.value (.int .i64 l.length)) w':=let ⟨_,h1,_⟩:=h;oCr ht F he h1.r w'
theorem oBc {α:Type} {sz:Nat} {R:ER α} [hR:FrC sz R] {t e:TypeId} {v:Value} {l r:List α} {i j:Int} {x:Operand} {lo hi:Option Operand} (ht:P.underlying t=some (.slice e)) (hsz:∀ w,(sizeOf e).run P w= .ok sz w) (F:Sk a n L) (he:ev L x=some v)
    (hlo:match lo with | some y=>ev L y=some (.int .i64 i) | none=>i=0) (hhi:match hi with | some y=>ev L y=some (.int .i64 j) | none=>j=l.length) (h:Bo M w1 (Sl sz R) v l) (hs:sl l i j=some r) :
    ∃ v',Bo M w1 (Sl sz R) v' r∧∀ w',(execOp a.eval ⟨d,.slice t x lo hi none,ty,pos,af,g⟩).run P w'= .ok (.value v') w':=by
  obtain⟨bs,h1,h2⟩:=h;obtain⟨v',bi,h3,h4,h5⟩:=oBo ht hsz h1 hs;refine⟨v',⟨bi,h3,fun c hc=>h2 c (h4 c hc)⟩,fun w'=>?_⟩
  cases lo with
  | none=>
    cases hi with
    | none=>
      have:=h5 none none (.inr ⟨rfl,hlo⟩) (.inr ⟨rfl,hhi⟩) w'
      unfold execOp
      simp only[F.ev he,Option.map_none]
      simp [this]
    | some y=>
      have:=h5 none (some (.int .i64 j)) (.inr ⟨rfl,hlo⟩) (.inl rfl) w'
      unfold execOp
      simp only[F.ev he,Option.map_none,Option.map_some,F.ev hhi]
      simp [this]
  | some z=>
    cases hi with
    | none=>
      have:=h5 (some (.int .i64 i)) none (.inl rfl) (.inr ⟨rfl,hhi⟩) w'
      unfold execOp
      simp only[F.ev he,Option.map_none,Option.map_some,F.ev hlo]
      simp [this]
    | some y=>
      have:=h5 (some (.int .i64 i)) (some (.int .i64 j)) (.inl rfl) (.inl rfl) w'
      unfold execOp
      simp only[F.ev he,Option.map_some,F.ev hlo,F.ev hhi]
      simp [this]
end
section
variable {P:Program} {ops:Array Oper} {Q:Exit→Act→World→Prop} {a:Act} {w w0 w1:World} {n:Nat} {L:List (Nat×Value)} {rest:List Oper} {d:Nat} {ty:TypeId} {pos:String} {af:Array Edge} {g:Option (Nat×Bool)} {M N:Nat→Prop} {X:List Nat} {D:List As}
theorem oI {α:Type} {sz:Nat} {R:ER α} {x iy:Operand} {t:TypeId} {v:Value} {l:List α} {e:TypeId} {i:Int} {y:α} (ht:P.underlying t=some (.slice e)) (hsz:∀ w,(sizeOf e).run P w= .ok sz w)
    (F:Sk a n L) (hc:qH ops n L g d=true) (he:ev L x=some v) (hi:ev L iy=some (.int .i64 i)) (h:Bo M w1 (Sl sz R) v l) (hix:ix l i=some y)
    (k:∀ a' p,Bo M w1 (Pt sz R) p y→Sk a' n ((d,p)::L)→wpList P ops Q rest a' w):wpList P ops Q (⟨some d,.indexAddr t x iy,ty,pos,af,g⟩::rest) a w:=
  let ⟨p,hr,hp⟩:=xJz ht hsz F he hi h hix;qX F hc (hr w) (fun a' F'=>k a' p hp F')
theorem oF {α β:Type} {sz s':Nat} {R:ER α} {R':ER β} {x:Operand} {t:TypeId} {kk:Nat} {p:Value} {y:α} {z:β} {off:Nat} (hp:∀ (a:Addr) w,(Instr.fieldAt t (.pointer (some a)) kk).run P w= .ok (.pointer (some (a.add off))) w)
    (F:Sk a n L) (hc:qH ops n L g d=true) (he:ev L x=some p) (h:Bo M w1 (Pt sz R) p y) (hf:∀ f bi,R w1 f y bi→∃ bj,R' w1 (fun j=>f (off+j)) z bj∧∀ c∈bj,c∈bi)
    (k:∀ a' p',Bo M w1 (Pt s' R') p' z→Sk a' n ((d,p')::L)→wpList P ops Q rest a' w):wpList P ops Q (⟨some d,.fieldAddr t x kk,ty,pos,af,g⟩::rest) a w:=
  let ⟨p',hr,h'⟩:=xJa (s':=s') hp F he h hf;qX F hc (hr w) (fun a' F'=>k a' p' h' F')
theorem olI {x:Operand} {t:TypeId} {p:Value} {y:Int} (hag:∀ w,(isAgg t).run P w= .ok false w) (F:Sk a n L) (hc:qH ops n L g d=true) (he:ev L x=some p) (s:Sm M w1 w) (h:Bo M w1 (Pt 1 xG) p y)
    (k:∀ a',xH y→Sk a' n ((d,.int .i64 y)::L)→wpList P ops Q rest a' w):wpList P ops Q (⟨some d,.load t x,ty,pos,af,g⟩::rest) a w:=
  let ⟨i,hr⟩:=xSx hag F he h;qX F hc (hr w s) (fun a' F'=>k a' i F')
theorem olU {x:Operand} {t:TypeId} {p:Value} {y:UInt8} (hag:∀ w,(isAgg t).run P w= .ok false w) (F:Sk a n L) (hc:qH ops n L g d=true) (he:ev L x=some p) (s:Sm M w1 w) (h:Bo M w1 (Pt 1 aW) p y)
    (k:∀ a',Sk a' n ((d,.int .u8 y.toNat)::L)→wpList P ops Q rest a' w):wpList P ops Q (⟨some d,.load t x,ty,pos,af,g⟩::rest) a w:=qX F hc (xSy hag F he h w s) k
theorem olT {x:Operand} {t:TypeId} {p:Value} {y:ByteArray} (hag:∀ w,(isAgg t).run P w= .ok false w) (F:Sk a n L) (hc:qH ops n L g d=true) (he:ev L x=some p) (s:Sm M w1 w) (h:Bo M w1 (Pt 1 rV) p y)
    (k:∀ a',y.size≤maxLen→Sk a' n ((d,.string y)::L)→wpList P ops Q rest a' w):wpList P ops Q (⟨some d,.load t x,ty,pos,af,g⟩::rest) a w:=
  let ⟨i,hr⟩:=xXs hag F he h;qX F hc (hr w s) (fun a' F'=>k a' i F')
theorem olS {α:Type} {sz:Nat} {R:ER α} {x:Operand} {t:TypeId} {p:Value} {y:List α} (hag:∀ w,(isAgg t).run P w= .ok false w) (F:Sk a n L) (hc:qH ops n L g d=true) (he:ev L x=some p) (s:Sm M w1 w) (h:Bo M w1 (Pt 1 (fG sz R)) p y)
    (k:∀ a' v,Bo M w1 (Sl sz R) v y→Sk a' n ((d,v)::L)→wpList P ops Q rest a' w):wpList P ops Q (⟨some d,.load t x,ty,pos,af,g⟩::rest) a w:=
  let ⟨v,hv,hr⟩:=oAk hag F he h;qX F hc (hr w s) (fun a' F'=>k a' v hv F')
theorem olP {α:Type} {sz:Nat} {R:ER α} {x:Operand} {t:TypeId} {p:Value} {y:α} (hag:∀ w,(isAgg t).run P w= .ok false w) (F:Sk a n L) (hc:qH ops n L g d=true) (he:ev L x=some p) (s:Sm M w1 w) (h:Bo M w1 (Pt 1 (RP sz R)) p y)
    (k:∀ a' v,Bo M w1 (Pt sz R) v y→Sk a' n ((d,v)::L)→wpList P ops Q rest a' w):wpList P ops Q (⟨some d,.load t x,ty,pos,af,g⟩::rest) a w:=
  let ⟨v,hv,hr⟩:=xXu hag F he h;qX F hc (hr w s) (fun a' F'=>k a' v hv F')
theorem olA {α:Type} {sz:Nat} {R:ER α} [hR:FrC sz R] {x:Operand} {t:TypeId} {p:Value} {y:α} (hag:∀ w,(isAgg t).run P w= .ok true w) (hsz:∀ w,(sizeOf t).run P w= .ok sz w) (F:Sk a n L) (hc:qH ops n L g d=true) (he:ev L x=some p) (s:Sm M w1 w) (h:Bo M w1 (Pt sz R) p y)
    (k:∀ a' v,Bo M w1 (qG sz R) v y→Sk a' n ((d,v)::L)→wpList P ops Q rest a' w):wpList P ops Q (⟨some d,.load t x,ty,pos,af,g⟩::rest) a w:=
  let ⟨v,hv,hr⟩:=xSh hag hsz F he h;qX F hc (hr w s) (fun a' F'=>k a' v hv F')
theorem oL {α:Type} {sz:Nat} {R:ER α} {x:Operand} {t:TypeId} {v:Value} {l:List α} {e:TypeId} (ht:P.underlying t=some (.slice e)) (F:Sk a n L) (hc:qH ops n L g d=true) (he:ev L x=some v) (h:Bo M w1 (Sl sz R) v l)
    (k:∀ a',xH (l.length:Int)→Sk a' n ((d,.int .i64 l.length)::L)→wpList P ops Q rest a' w):wpList P ops Q (⟨some d,.call ⟨.builtin .len,#[x],#[t]⟩,ty,pos,af,g⟩::rest) a w:=qX F hc (xXh ht F he h w) (fun a' F'=>k a' h.slen F')
theorem oC {α:Type} {sz:Nat} {R:ER α} [hR:FrC sz R] {t e:TypeId} {v:Value} {l r:List α} {i j:Int} {x:Operand} {lo hi:Option Operand} (ht:P.underlying t=some (.slice e)) (hsz:∀ w,(sizeOf e).run P w= .ok sz w) (F:Sk a n L) (hc:qH ops n L g d=true) (he:ev L x=some v)
    (hlo:match lo with | some y=>ev L y=some (.int .i64 i) | none=>i=0) (hhi:match hi with | some y=>ev L y=some (.int .i64 j) | none=>j=l.length) (h:Bo M w1 (Sl sz R) v l) (hs:sl l i j=some r)
    (k:∀ a' v',Bo M w1 (Sl sz R) v' r→Sk a' n ((d,v')::L)→wpList P ops Q rest a' w):wpList P ops Q (⟨some d,.slice t x lo hi none,ty,pos,af,g⟩::rest) a w:=
  let ⟨v',hv,hr⟩:=oBc ht hsz F he hlo hhi h hs;qX F hc (hr w) (fun a' F'=>k a' v' hv F')
theorem oN {α:Type} {sz:Nat} {R:ER α} {x:Operand} {p:Value} {y:α} (F:Sk a n L) (hc:qH ops n L g d=true) (e:ev L x=some p) (h:Bo M w1 (Pt sz R) p y)
    (k:∀ a',Sk a' n ((d,p)::L)→wpList P ops Q rest a' w):wpList P ops Q (⟨some d,.nilCheck x,ty,pos,af,g⟩::rest) a w:=
  have hr:=xUu (d:=some d) (ty:=ty) (pos:=pos) (af:=af) (g:=g) F e h;qX F hc (hr w) k
theorem oA {T:TypeId} {z:Value} {cs:List Value} (hz:∀ w,(zeroValue T).run P w= .ok z w) (F:Sk a n L) (hc:qH ops n L g d=true) (ha:z.cells=cs.toArray) (H:Sep X N w0 w D)
    (k:∀ a' w' b,Sep X N w0 w' (bx b cs T::D)→Sk a' n ((d,.pointer (some ⟨b,0,none⟩))::L)→wpList P ops Q rest a' w'):wpList P ops Q (⟨some d,.alloc T,ty,pos,af,g⟩::rest) a w:=
  xWg hz F hc ha (fun a' w' b K l hb F'=>k a' w' b (H.push l (A:=bx b cs T) (Y0:=[b]) ⟨K,by simp⟩ n0 (fun c hc=>by rw[List.mem_singleton] at hc;subst hc;exact⟨hb,K.lt⟩)) F')
theorem oX {x:Operand} {T:TypeId} {v:Value} {cs:List Value} (F:Sk a n L) (hc:qH ops n L g d=true) (he:ev L x=some v) (ha:v.cells=cs.toArray) (H:Sep X N w0 w D)
    (k:∀ a' w' b,Sep X N w0 w' (bx b cs T::D)→Sk a' n ((d,.pointer (some ⟨b,0,none⟩))::L)→wpList P ops Q rest a' w'):wpList P ops Q (⟨some d,.box T x,ty,pos,af,g⟩::rest) a w:=
  oDd F hc he ha (fun a' w' b K l hb F'=>k a' w' b (H.push l (A:=bx b cs T) (Y0:=[b]) ⟨K,by simp⟩ n0 (fun c hc=>by rw[List.mem_singleton] at hc;subst hc;exact⟨hb,K.lt⟩)) F')
theorem oB {x:Operand} {t:TypeId} {b o:Nat} {v:Value} {cs:List Value} {T:TypeId} (hag:∀ w,(isAgg t).run P w= .ok false w) (F:Sk a n L) (hc:qH ops n L g d=true) (he:ev L x=some (.pointer (some ⟨b,o,none⟩))) (h:fI w b cs.toArray T) (hv:cs[o]?=some v)
    (k:∀ a',Sk a' n ((d,v)::L)→wpList P ops Q rest a' w):wpList P ops Q (⟨some d,.load t x,ty,pos,af,g⟩::rest) a w:=xWh hag F hc he h (by simpa using hv) k
theorem oBA {x:Operand} {t:TypeId} {b o sz:Nat} {cs vs:List Value} {T:TypeId} (hag:∀ w,(isAgg t).run P w= .ok true w) (hsz:∀ w,(sizeOf t).run P w= .ok sz w) (F:Sk a n L) (hc:qH ops n L g d=true) (he:ev L x=some (.pointer (some ⟨b,o,none⟩))) (h:fI w b cs.toArray T)
    (hv:(cs.drop o).take sz=vs) (hl:vs.length=sz)
    (k:∀ a',Sk a' n ((d,.agg vs.toArray)::L)→wpList P ops Q rest a' w):wpList P ops Q (⟨some d,.load t x,ty,pos,af,g⟩::rest) a w:=
  xSb hag hsz F hc he h hl (fun j hj=>by subst hv;simp [List.getElem?_take,hj]) k
theorem oW {x y:Operand} {t:TypeId} {b o:Nat} {v:Value} {cs cs':List Value} {T:TypeId} (hsz:∀ w,(sizeOf t).run P w= .ok 1 w) (F:Sk a n L) (hc:gok ops L g=true) (he:ev L x=some (.pointer (some ⟨b,o,none⟩))) (he':ev L y=some v) (H:Sep X N w0 w (bx b cs T::D)) (hv:v.oneCell'=true) (ho:Nat.blt o cs.length=true) (hcs:cs.set o v=cs')
    (k:∀ w',Sep X N w0 w' (bx b cs' T::D)→wpList P ops Q rest a w'):wpList P ops Q (⟨none,.store t x y,ty,pos,af,g⟩::rest) a w:=by
  obtain⟨Y,⟨hK,hb⟩,_,hY,tr⟩:=H.hd;have ho':o<cs.length:=Nat.le_of_ble_eq_true ho;refine xUq (arr':=cs'.toArray) hsz F hc he he' hK hv (by simpa using ho') (by subst hcs;simp) (fun w' K l=>k w' (tr (Z:=[b]) (fun c hc=>by rw[List.mem_singleton] at hc;rw[hc];exact hb) l (Y1:=[b]) ⟨K,by simp⟩ n0 (fun c hc=>?_)));rw[List.mem_singleton] at hc;subst hc;exact⟨.inl hb,K.lt⟩
theorem oWA {x y:Operand} {t:TypeId} {b o:Nat} {vs cs cs':List Value} {T:TypeId} (hsz:∀ w,(sizeOf t).run P w= .ok vs.length w) (F:Sk a n L) (hc:gok ops L g=true) (he:ev L x=some (.pointer (some ⟨b,o,none⟩))) (he':ev L y=some (.agg vs.toArray)) (H:Sep X N w0 w (bx b cs T::D)) (hv:∀ v∈vs,v.oneCell'=true) (ho:Nat.ble (o+vs.length) cs.length=true) (hcs:cs.take o++vs++cs.drop (o+vs.length)=cs')
    (k:∀ w',Sep X N w0 w' (bx b cs' T::D)→wpList P ops Q rest a w'):wpList P ops Q (⟨none,.store t x y,ty,pos,af,g⟩::rest) a w:=by
  obtain⟨Y,⟨hK,hb⟩,_,hY,tr⟩:=H.hd;have ho':o+vs.length≤cs.length:=Nat.le_of_ble_eq_true ho;refine xQk (arr':=cs'.toArray) hsz F hc he he' hK hv (by simpa using ho') (by subst hcs;simp) (fun w' K l=>k w' (tr (Z:=[b]) (fun c hc=>by rw[List.mem_singleton] at hc;rw[hc];exact hb) l (Y1:=[b]) ⟨K,by simp⟩ n0 (fun c hc=>?_)));rw[List.mem_singleton] at hc;subst hc;exact⟨.inl hb,K.lt⟩
theorem Row.push {α:Type} {sz:Nat} {R:ER α} [hR:FrC sz R] {E:TypeId} {v:Value} {xs:List α} {rb:List Nat} {w':World} (H:Sep X N w0 w D) (l:Below w.heap.size w w') (r:Row sz R E w.heap.size w' v xs rb []):Sep X N w0 w' (rl sz R E v xs::D):=
  H.push l (A:=rl sz R E v xs) (Y0:=rb) ⟨rb,[],r.base (Nat.zero_le _),Own.nil _ _,fun _ hc=>hc,fun _ h=>nomatch h⟩ n0 (fun c hc=>⟨(r.blk c hc).1,r.memR c hc⟩)
theorem oR0 {α:Type} {sz:Nat} {R:ER α} [hR:FrC sz R] {t e:TypeId} (ht:P.underlying t=some (.slice e)) (hsz:∀ w,(sizeOf e).run P w= .ok sz w) (F:Sk a n L) (hc:qH ops n L g d=true) (H:Sep X N w0 w D)
    (k:∀ a' w' v,Sep X N w0 w' (rl sz R e v []::D)→Sk a' n ((d,v)::L)→wpList P ops Q rest a' w'):wpList P ops Q (⟨some d,.buildSlice t 0 #[],ty,pos,af,g⟩::rest) a w:=
  xXz (R:=R) ht hsz F hc (fun a' w' v rb r l F'=>k a' w' v (r.push H l) F')
theorem oRM {α:Type} {sz:Nat} {R:ER α} [hR:FrC sz R] {x y:Operand} {t E:TypeId} {z:Value} {bytes:Nat} {i:Int} {zero:α} {l:List α} (ht:P.underlying t=some (.slice E)) (hinfo:(P.info? E).map (fun i=>(i.zero,i.size,i.bytes))=some (some z,sz,bytes)) (hzs:z.cells.size=sz) (hsz:0<sz) (hby:bytes≤1024) (hz0:∀ w,R w (fun j=>z.cells[j]?) zero [])
    (F:Sk a n L) (hc:qH ops n L g d=true) (hx:ev L x=some (.int .i64 i)) (hy:ev L y=some (.int .i64 i)) (hl:mkz zero i=some l) (H:Sep X N w0 w D)
    (k:∀ a' w' v,Sep X N w0 w' (rl sz R E v l::D)→Sk a' n ((d,v)::L)→wpList P ops Q rest a' w'):wpList P ops Q (⟨some d,.makeSlice t x y,ty,pos,af,g⟩::rest) a w:=
  xYw (R:=R) ht hinfo hzs hsz hby hz0 F hc hx hy hl (fun a' w' v rb r l F'=>k a' w' v (r.push H l) F')
theorem oRI {t e:TypeId} {z:Value} {parts:Array (Nat×Operand)} {m:Nat} {xs:List Operand} {l:List Int} (ht:P.underlying t=some (.slice e)) (hsz:∀ w,(sizeOf e).run P w= .ok 1 w) (hz:∀ w,(zeroValue e).run P w= .ok z w) (hzs:z.cells.size=1)
    (F:Sk a n L) (hc:qH ops n L g d=true) (hp:parts.toList=(List.range' 0 xs.length).zip xs) (hm:m=l.length) (hm1:Nat.ble l.length 1000=true) (hm0:Nat.blt 0 l.length=true)
    (hx:evs L xs=some (l.map (Value.int .i64))) (hI:∀ y∈l,xH y) (H:Sep X N w0 w D)
    (k:∀ a' w' v,Sep X N w0 w' (rl 1 xG e v l::D)→Sk a' n ((d,v)::L)→wpList P ops Q rest a' w'):wpList P ops Q (⟨some d,.buildSlice t m parts,ty,pos,af,g⟩::rest) a w:=
  oAg ht hsz hz hzs F hc hp hm (Nat.le_of_ble_eq_true hm1) (Nat.le_of_ble_eq_true hm0) hx hI (fun a' w' v rb r l F'=>k a' w' v (r.push H l) F')
theorem oRE {α:Type} (enc:α→Value) (Ok:α→Prop) {R:ER α} [hF:FrC 1 R] (hR:∀ w f x,Ok x→f 0=some (enc x)→R w f x []) (h1c:∀ x,(enc x).oneCell'=true)
    {t e:TypeId} {z:Value} {parts:Array (Nat×Operand)} {m:Nat} {xs:List Operand} {l:List α} (ht:P.underlying t=some (.slice e)) (hsz:∀ w,(sizeOf e).run P w= .ok 1 w) (hz:∀ w,(zeroValue e).run P w= .ok z w) (hzs:z.cells.size=1)
    (F:Sk a n L) (hc:qH ops n L g d=true) (hp:parts.toList=(List.range' 0 xs.length).zip xs) (hm:m=l.length) (hm1:Nat.ble l.length 1000=true) (hm0:Nat.blt 0 l.length=true)
    (hx:evs L xs=some (l.map enc)) (hI:∀ y∈l,Ok y) (H:Sep X N w0 w D)
    (k:∀ a' w' v,Sep X N w0 w' (rl 1 R e v l::D)→Sk a' n ((d,v)::L)→wpList P ops Q rest a' w'):wpList P ops Q (⟨some d,.buildSlice t m parts,ty,pos,af,g⟩::rest) a w:=
  xYx enc Ok hR h1c ht hsz hz hzs F hc hp hm (Nat.le_of_ble_eq_true hm1) (Nat.le_of_ble_eq_true hm0) hx hI (fun a' w' v rb r l F'=>k a' w' v (r.push H l) F')
end
end Go.Proofs.YtlommebgedmjdaaGreatDoor
