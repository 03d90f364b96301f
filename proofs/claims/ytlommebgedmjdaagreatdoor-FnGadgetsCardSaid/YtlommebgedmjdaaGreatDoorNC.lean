import Derived.Test.YtlommebgedmjdaaGreatDoorNB
import Derived.Lib.ConvBytes
import Derived.Laws.AppendOwn
namespace Go.Proofs.YtlommebgedmjdaaGreatDoor
set_option linter.unusedVariables false
set_option linter.unusedSimpArgs false
open Go.RowKit
def Eo {α:Type} (N:Nat→Prop) (w:World) (sz:Nat) (R:ER α) (v:Value) (x:α):Prop:=∃ bs,El sz R w v x bs∧∀ c∈bs,N c
section
variable {N:Nat→Prop} {w:World}
theorem Eo.int {x:Int} (h:xH x):Eo N w 1 xG (.int .i64 x) x:=⟨[],El.int h,fun _ h=>nomatch h⟩
theorem Eo.str {x:ByteArray} (h:x.size≤maxLen):Eo N w 1 rV (.string x) x:=⟨[],El.str h,fun _ h=>nomatch h⟩
theorem Eo.agg {α:Type} {sz:Nat} {R:ER α} [hR:FrC sz R] {v:Value} {x:α} (h:Bo N w (qG sz R) v x):Eo N w sz R v x:=let ⟨bs,h1,h2⟩:=h;⟨bs,El.agg h1,h2⟩
theorem Rdg.l {A B:As} (h:Rdg N w (pr A B)):Rdg N w A:=let ⟨Y,⟨Y1,Y2,h1,h2,_,h4,h5⟩,h6,h7⟩:=h;⟨Y1,h1,fun c hc=>h6 c (h4 c hc),fun c hc=>h7 c (.inl hc)⟩
theorem Rdg.r {A B:As} (h:Rdg N w (pr A B)):Rdg N w B:=let ⟨Y,⟨Y1,Y2,h1,h2,_,h4,h5⟩,h6,h7⟩:=h;⟨Y2,h2,fun c hc=>h6 c (h5 c hc),fun c hc=>h7 c (.inr hc)⟩
end
class Flat {α:Type} (R:ER α):Prop where
  nil:∀ w f x bs,R w f x bs→bs=[]
instance:Flat xG:=⟨fun _ _ _ _ h=>h.2.2⟩
instance:Flat wU:=⟨fun _ _ _ _ h=>h.2⟩
instance:Flat rV:=⟨fun _ _ _ _ h=>h.2.2⟩
instance:Flat aW:=⟨fun _ _ _ _ h=>h.2⟩
section
variable {P:Program} {ops:Array Oper} {Q:Exit→Act→World→Prop} {a:Act} {w w0 w1:World} {n:Nat} {L:List (Nat×Value)} {rest:List Oper} {d:Nat} {ty:TypeId} {pos:String} {af:Array Edge} {g:Option (Nat×Bool)} {M N N1:Nat→Prop} {X:List Nat} {D:List As} {A B:As}
theorem oR1 {α:Type} {sz:Nat} {R:ER α} [hR:FrC sz R] {t e:TypeId} {z:Value} {x:Operand} {v:Value} {y:α} (ht:P.underlying t=some (.slice e)) (hsz:∀ w,(sizeOf e).run P w= .ok sz w) (hz:∀ w,(zeroValue e).run P w= .ok z w) (hzs:z.cells.size=sz) (hb:(Nat.blt 0 sz && Nat.ble sz 1000)=true) (F:Sk a n L) (hc:qH ops n L g d=true)
    (hx:ev L x=some v) (H:Sep X N w0 w D) (h1:∀ c,N1 c→N c) (h:Eo N1 w sz R v y)
    (k:∀ a' w' v',Sep X N w0 w' (rw N1 sz R e v' [y]::D)→Sk a' n ((d,v')::L)→wpList P ops Q rest a' w'):wpList P ops Q (⟨some d,.buildSlice t 1 #[(0,x)],ty,pos,af,g⟩::rest) a w:=by
  rw[Bool.and_eq_true] at hb;obtain⟨bs,h2,h3⟩:=h;exact xNd ht hsz hz hzs (Nat.le_of_ble_eq_true hb.1) (Nat.le_of_ble_eq_true hb.2) F hc hx h2 (fun a' w' v' rb r l F'=>k a' w' v' (H.push l (A:=rw N1 sz R e v' [y]) (Y0:=rb) (rw_m (r.base (Nat.zero_le _)) h3) h1 (fun c hc=>⟨(r.blk c hc).1,r.memR c hc⟩)) F')
theorem xMx {rb rb' Y:List Nat} {w w':World} (hrb:∀ c∈rb,c∈Y) (hn:∀ X,qM X w→Dj X rb→Dj X rb') {c:Nat} (hc:c∈rb'):c∈Y∨w.heap.size≤c:=by
  by_cases h1:c∈Y
  · exact .inl h1
  · by_cases h2:w.heap.size≤c
    · exact .inr h2
    · exact absurd hc (hn [c] (fun b hb=>by rw[List.mem_singleton] at hb;subst hb;omega) (fun b hb hm=>by rw[List.mem_singleton] at hb;subst hb;exact h1 (hrb b hm)) c (by simp))
theorem oP {α:Type} {sz:Nat} {R:ER α} [hR:FrC sz R] {x y:Operand} {t E E':TypeId} {z:Value} {bytes:Nat} {v u:Value} {l m r:List α} (ht:P.underlying t=some (.slice E)) (hinfo:(P.info? E).map (fun i=>(i.zero,i.size,i.bytes))=some (some z,sz,bytes)) (hzs:z.cells.size=sz) (hb:(Nat.blt 0 sz && (Nat.ble bytes 1024 && Nat.blt 0 bytes))=true)
    (F:Sk a n L) (hc:qH ops n L g d=true) (hx:ev L x=some v) (hy:ev L y=some u) (H:Sep X N w0 w (rw N1 sz R E v l::rw N1 sz R E' u m::D)) (hap:ap l m=some r)
    (k:∀ a' w' v',Sep X N w0 w' (rw N1 sz R E v' r::D)→Sk a' n ((d,v')::L)→wpList P ops Q rest a' w'):wpList P ops Q (⟨some d,.call ⟨.builtin .append,#[x,y],#[t,t]⟩,ty,pos,af,g⟩::rest) a w:=by
  simp only[Bool.and_eq_true] at hb;obtain⟨Y,⟨Y1,Y2,⟨rb,ib,r1,r2,r3⟩,⟨rb2,ib2,s1,s2,s3⟩,dj,y1,y2⟩,hN,hY,tr⟩:=H.mg.hd;have hN1:∀ c,N1 c→N c:=fun c hc=>hN c (.inl hc);refine xEi ht hinfo hzs (Nat.le_of_ble_eq_true hb.1) (Nat.le_of_ble_eq_true hb.2.1) (Nat.le_of_ble_eq_true hb.2.2) F hc hx hy r1 s1.src (Nat.zero_le _) (fun c hc hc2=>?_) hap (fun a' w' v' rb' q o hn F'=>k a' w' v' (tr (Z:=rb) (fun c hc=>y1 c (r2 c hc)) o (B:=rw N1 sz R E v' r) (Y1:=Y++rb') ⟨rb',ib++ib2,q,fun c hc=>List.mem_append_right _ hc,fun c hc=>?_⟩ hN1 (fun c hc=>?_)) F')
  · rcases s3 c hc2 with h | h
    · exact dj c (r2 c hc) h
    · exact(hY c (y1 c (r2 c hc))).2 (hN1 c h)
  · rcases List.mem_append.1 hc with hc | hc
    · exact(r3 c hc).imp (fun h=>List.mem_append_left _ (y1 c h)) id
    · exact(s3 c hc).imp (fun h=>List.mem_append_left _ (y2 c h)) id
  · rcases List.mem_append.1 hc with hc | hc
    · exact⟨.inl hc,Nat.lt_of_lt_of_le (hY c hc).1 o.size⟩
    · exact⟨xMx (w':=w') (fun c hc=>y1 c (r2 c hc)) hn hc,q.memR c hc⟩
theorem oPf {α:Type} {sz:Nat} {R:ER α} [hR:FrC sz R] [hf:Flat R] {x y:Operand} {t E:TypeId} {z:Value} {bytes:Nat} {v u:Value} {l m r:List α} (ht:P.underlying t=some (.slice E)) (hinfo:(P.info? E).map (fun i=>(i.zero,i.size,i.bytes))=some (some z,sz,bytes)) (hzs:z.cells.size=sz) (hb:(Nat.blt 0 sz && (Nat.ble bytes 1024 && Nat.blt 0 bytes))=true)
    (F:Sk a n L) (hc:qH ops n L g d=true) (hx:ev L x=some v) (hy:ev L y=some u) (H:Sep X N w0 w (rw N1 sz R E v l::D)) (hs:Bo M w (Sl sz R) u m) (hap:ap l m=some r)
    (k:∀ a' w' v',Sep X N w0 w' (rw N1 sz R E v' r::D)→Sk a' n ((d,v')::L)→wpList P ops Q rest a' w'):wpList P ops Q (⟨some d,.call ⟨.builtin .append,#[x,y],#[t,t]⟩,ty,pos,af,g⟩::rest) a w:=by
  simp only[Bool.and_eq_true] at hb;obtain⟨Y,⟨rb,ib,r1,r2,r3⟩,hN,hY,tr⟩:=H.hd;obtain⟨bs,h1,h2⟩:=hs;obtain⟨ib2,s1,s2⟩:=Rd.src (Nat.le_of_ble_eq_true hb.1) h1;obtain rfl:ib2=[]:=xRl s1 hf.nil;refine xEi ht hinfo hzs (Nat.le_of_ble_eq_true hb.1) (Nat.le_of_ble_eq_true hb.2.1) (Nat.le_of_ble_eq_true hb.2.2) F hc hx hy r1 s1 (Nat.zero_le _) (Dj.nil _) hap (fun a' w' v' rb' q o hn F'=>k a' w' v' (tr (Z:=rb) r2 o (B:=rw N1 sz R E v' r) (Y1:=Y++rb') ⟨rb',ib++[],q,fun c hc=>List.mem_append_right _ hc,fun c hc=>?_⟩ hN (fun c hc=>?_)) F')
  · rw[List.append_nil] at hc
    exact(r3 c hc).imp (fun h=>List.mem_append_left _ h) id
  · rcases List.mem_append.1 hc with hc | hc
    · exact⟨.inl hc,Nat.lt_of_lt_of_le (hY c hc).1 o.size⟩
    · exact⟨xMx (w':=w') r2 hn hc,q.memR c hc⟩
theorem Sep.hN (H:Sep X N w0 w D):∀ c,N c→c<w.heap.size:=fun c hc=>Nat.lt_of_lt_of_le (H.nb c hc).1 H.fr.size
theorem Sep.nl {α:Type} (H:Sep X N w0 w D) (sz:Nat) (R:ER α) [hR:FrC sz R] (E:TypeId):Sep X N w0 w (rl sz R E (.slice none 0 0) []::D):=
  H.push (Below.refl _ _) (A:=rl sz R E (.slice none 0 0) []) (Y0:=[]) ⟨[],[],Row.nil sz R E 0 w,Own.nil _ _,(fun _ h=>nomatch h),(fun _ h=>nomatch h)⟩ n0 (fun _ h=>nomatch h)
theorem Sep.lw {α:Type} {sz:Nat} {R:ER α} [hR:FrC sz R] {E:TypeId} {v:Value} {l:List α} (H:Sep X N w0 w (rl sz R E v l::D)):Sep X N w0 w (rw N0 sz R E v l::D):=by
  obtain⟨Y,⟨rb,ib,r1,_,r2,r3⟩,hN,hY,tr⟩:=H.hd;exact tr (Z:=[]) (fun _ h=>nomatch h) (Only.refl _ _) (B:=rw N0 sz R E v l) (Y1:=Y) ⟨rb,ib,r1,r2,fun c hc=>.inl (r3 c hc)⟩ n0 (fun c hc=>⟨.inl hc,(hY c hc).1⟩)
theorem sP {α:Type} {sz:Nat} {R:ER α} [hf:Flat R] {E:TypeId} {B:Nat} {v:Value} {l:List α} {rb ib:List Nat} (r:Row sz R E B w v l rb ib):ib=[]:=by
  obtain⟨xs,bss,ho,hl,hfl,he⟩:=r.row;rw[← hfl,List.flatten_eq_nil_iff];intro bi hb;obtain⟨i,hi,rfl⟩:=List.getElem_of_mem hb;exact hf.nil _ _ _ _ (he i _ _ (List.getElem?_eq_getElem (by rw[← hl];exact hi)) (List.getElem?_eq_getElem hi))
theorem Sep.tl {α:Type} {sz:Nat} {R:ER α} [hR:FrC sz R] [hf:Flat R] {E:TypeId} {v:Value} {l:List α} (H:Sep X N w0 w (rw N1 sz R E v l::D)):Sep X N w0 w (rl sz R E v l::D):=by
  obtain⟨Y,⟨rb,ib,r1,r2,r3⟩,hN,hY,tr⟩:=H.hd;obtain rfl:=sP r1;exact tr (Z:=[]) (fun _ h=>nomatch h) (Only.refl _ _) (B:=rl sz R E v l) (Y1:=Y) ⟨rb,[],r1,Own.nil _ _,r2,fun _ h=>nomatch h⟩ n0 (fun c hc=>⟨.inl hc,(hY c hc).1⟩)
theorem Sep.os {α:Type} {sz:Nat} {R:ER α} [hR:FrC sz R] {E:TypeId} {v:Value} {l:List α} (H:Sep X N w0 w (rl sz R E v l::D)):Sep X N w0 w (ow (V:=Sl sz R) v l::D):=by
  obtain⟨Y,⟨rb,ib,r1,ho,r2,r3⟩,hN,hY,tr⟩:=H.hd;exact tr (Z:=[]) (fun _ h=>nomatch h) (Only.refl _ _) (B:=ow (V:=Sl sz R) v l) (Y1:=Y) ⟨rb++ib,r1.rd,r1.own ho,fun c hc=>(List.mem_append.1 hc).elim (r2 c) (r3 c)⟩ n0 (fun c hc=>⟨.inl hc,(hY c hc).1⟩)
theorem Sep.dt {α:Type} {V:VR α} [hV:VF V] {v:Value} {x:α} (H:Sep X N w0 w (A::D)) (h:∀ {Y:List Nat},A.P w Y→(∀ c∈Y,c<w.heap.size)→∃ bs,Rd V w v x bs∧Own 0 bs w∧∀ c∈bs,c∈Y):Sep X N w0 w (ow (V:=V) v x::D):=by
  obtain⟨Y,hP,hN,hY,tr⟩:=H.hd;exact tr (Z:=[]) (fun _ h=>nomatch h) (Only.refl _ _) (B:=ow (V:=V) v x) (Y1:=Y) (h hP (fun c hc=>(hY c hc).1)) n0 (fun c hc=>⟨.inl hc,(hY c hc).1⟩)
theorem oBg {α:Type} {sz:Nat} {R:ER α} [hR:FrC sz R] {t e:TypeId} {z:Value} {x:Operand} {v:Value} {y:α} (ht:P.underlying t=some (.slice e)) (hsz:∀ w,(sizeOf e).run P w= .ok sz w) (hz:∀ w,(zeroValue e).run P w= .ok z w) (hzs:z.cells.size=sz) (hb:(Nat.blt 0 sz && Nat.ble sz 1000)=true) (F:Sk a n L) (hc:qH ops n L g d=true)
    (hx:ev L x=some v) (H:Sep X N w0 w D) (h:Eo N0 w sz R v y)
    (k:∀ a' w' v',Sep X N w0 w' (rl sz R e v' [y]::D)→Sk a' n ((d,v')::L)→wpList P ops Q rest a' w'):wpList P ops Q (⟨some d,.buildSlice t 1 #[(0,x)],ty,pos,af,g⟩::rest) a w:=by
  rw[Bool.and_eq_true] at hb;obtain⟨bs,h2,h3⟩:=h;obtain rfl:bs=[]:=List.eq_nil_iff_forall_not_mem.2 h3;exact xNd ht hsz hz hzs (Nat.le_of_ble_eq_true hb.1) (Nat.le_of_ble_eq_true hb.2) F hc hx h2 (fun a' w' v' rb r l F'=>k a' w' v' (Row.push H l r) F')
theorem oR1L {α:Type} {sz:Nat} {R:ER α} [hR:FrC sz R] {V:VR α} [hV:VF V] {t e:TypeId} {z:Value} {x:Operand} {v:Value} {y:α} (ht:P.underlying t=some (.slice e)) (hsz:∀ w,(sizeOf e).run P w= .ok sz w) (hz:∀ w,(zeroValue e).run P w= .ok z w) (hzs:z.cells.size=sz) (hb:(Nat.blt 0 sz && Nat.ble sz 1000)=true) (F:Sk a n L) (hc:qH ops n L g d=true)
    (hx:ev L x=some v) (H:Sep X N w0 w (ow (V:=V) v y::D)) (h:∀ {bs},Rd V w v y bs→El sz R w v y bs)
    (k:∀ a' w' v',Sep X N w0 w' (rl sz R e v' [y]::D)→Sk a' n ((d,v')::L)→wpList P ops Q rest a' w'):wpList P ops Q (⟨some d,.buildSlice t 1 #[(0,x)],ty,pos,af,g⟩::rest) a w:=by
  rw[Bool.and_eq_true] at hb;obtain⟨Y,⟨bs,p1,p2,p3⟩,_,hY,tr⟩:=H.hd;refine xNd ht hsz hz hzs (Nat.le_of_ble_eq_true hb.1) (Nat.le_of_ble_eq_true hb.2) F hc hx (h p1) (fun a' w' v' rb r l F'=>k a' w' v' (tr (Z:=[]) (fun _ h=>nomatch h) (Only.of_below l) (B:=rl sz R e v' [y]) (Y1:=Y++rb) ⟨rb,bs,r.base (Nat.zero_le _),p2.go l,fun c hc=>List.mem_append_right _ hc,fun c hc=>List.mem_append_left _ (p3 c hc)⟩ n0 (fun c hc=>?_)) F')
  rcases List.mem_append.1 hc with hc | hc
  · exact⟨.inl hc,Nat.lt_of_lt_of_le (hY c hc).1 l.size⟩
  · exact⟨.inr (r.blk c hc).1,r.memR c hc⟩
theorem oPL {α:Type} {sz:Nat} {R:ER α} [hR:FrC sz R] {x y:Operand} {t E E':TypeId} {z:Value} {bytes:Nat} {v u:Value} {l m r:List α} (ht:P.underlying t=some (.slice E)) (hinfo:(P.info? E).map (fun i=>(i.zero,i.size,i.bytes))=some (some z,sz,bytes)) (hzs:z.cells.size=sz) (hb:(Nat.blt 0 sz && (Nat.ble bytes 1024 && Nat.blt 0 bytes))=true)
    (F:Sk a n L) (hc:qH ops n L g d=true) (hx:ev L x=some v) (hy:ev L y=some u) (H:Sep X N w0 w (rl sz R E v l::rl sz R E' u m::D)) (hap:ap l m=some r)
    (k:∀ a' w' v',Sep X N w0 w' (rl sz R E v' r::D)→Sk a' n ((d,v')::L)→wpList P ops Q rest a' w'):wpList P ops Q (⟨some d,.call ⟨.builtin .append,#[x,y],#[t,t]⟩,ty,pos,af,g⟩::rest) a w:=by
  simp only[Bool.and_eq_true] at hb;obtain⟨Y,⟨Y1,Y2,⟨rb,ib,r1,ro,r2,r3⟩,⟨rb2,ib2,s1,so,s2,s3⟩,dj,y1,y2⟩,hN,hY,tr⟩:=H.mg.hd;have d1:Dj rb ib2:=fun c hc hc2=>dj c (r2 c hc) (s3 c hc2);refine xEi ht hinfo hzs (Nat.le_of_ble_eq_true hb.1) (Nat.le_of_ble_eq_true hb.2.1) (Nat.le_of_ble_eq_true hb.2.2) F hc hx hy r1 s1.src (Nat.zero_le _) d1 hap (fun a' w' v' rb' q o hn F'=>k a' w' v' (tr (Z:=rb) (fun c hc=>y1 c (r2 c hc)) o (B:=rl sz R E v' r) (Y1:=Y++rb') ⟨rb',ib++ib2,q,(ro.goO o r1.dj.symm).append (so.goO o d1.symm) (fun c hc hc2=>dj c (r3 c hc) (s3 c hc2)),fun c hc=>List.mem_append_right _ hc,fun c hc=>List.mem_append_left _ ?_⟩ n0 (fun c hc=>?_)) F')
  · rcases List.mem_append.1 hc with hc | hc
    · exact y1 c (r3 c hc)
    · exact y2 c (s3 c hc)
  · rcases List.mem_append.1 hc with hc | hc
    · exact⟨.inl hc,Nat.lt_of_lt_of_le (hY c hc).1 o.size⟩
    · exact⟨xMx (w':=w') (fun c hc=>y1 c (r2 c hc)) hn hc,q.memR c hc⟩
theorem oRl {α:Type} {sz:Nat} {R:ER α} [hR:FrC sz R] {x iy:Operand} {t E:TypeId} {v:Value} {l:List α} {i:Int} {y:α} (ht:P.underlying t=some (.slice E)) (hsz:∀ w,(sizeOf E).run P w= .ok sz w)
    (F:Sk a n L) (hc:qH ops n L g d=true) (he:ev L x=some v) (hi:ev L iy=some (.int .i64 i)) (H:Sep X N w0 w D) (j:Nat) (hj:D[j]?=some (rl sz R E v l)) (hix:ix l i=some y)
    (k:∀ a' p,Bo (All w) w (Pt sz R) p y→RPt v sz i.toNat p→Sk a' n ((d,p)::L)→wpList P ops Q rest a' w):wpList P ops Q (⟨some d,.indexAddr t x iy,ty,pos,af,g⟩::rest) a w:=by
  obtain⟨Y,⟨rb,ib,r1,_,r2,r3⟩,hY,hN⟩:=H.g j hj;exact xLz ht hsz F hc he hi r1 hix (fun a' p bi h1 h2 hp F'=>k a' p (Bo.of h1) hp F')
theorem Sep.wk {α:Type} {sz:Nat} {R:ER α} [hR:FrC sz R] {E:TypeId} {v:Value} {l:List α} (H:Sep X N w0 w (rw N0 sz R E v l::D)):Sep X N w0 w (rw N sz R E v l::D):=by
  obtain⟨Y,⟨rb,ib,r1,r2,r3⟩,hN,hY,tr⟩:=H.hd;exact tr (Z:=[]) (fun _ h=>nomatch h) (Only.refl _ _) (B:=rw N sz R E v l) (Y1:=Y) ⟨rb,ib,r1,r2,fun c hc=>.inl ((r3 c hc).resolve_right id)⟩ n1 (fun c hc=>⟨.inl hc,(hY c hc).1⟩)
theorem oS {α:Type} {R:ER α} [hR:FrC 1 R] {x y:Operand} {t E:TypeId} {v p u:Value} {l l':List α} {i:Nat} {z:α} (hsz:∀ w,(sizeOf t).run P w= .ok 1 w)
    (F:Sk a n L) (hc:gok ops L g=true) (hx:ev L x=some p) (hy:ev L y=some u) (H:Sep X N w0 w (rw N1 1 R E v l::D)) (hp:RPt v 1 i p) (hi:i<l.length) (hz:Eo N1 w 1 R u z) (hone:u.oneCell'=true) (hl:l.set i z=l')
    (k:∀ w',Sep X N w0 w' (rw N1 1 R E v l'::D)→wpList P ops Q rest a w'):wpList P ops Q (⟨none,.store t x y,ty,pos,af,g⟩::rest) a w:=by
  obtain⟨Y,⟨rb,ib,r1,r2,r3⟩,hN,hY,tr⟩:=H.hd;obtain⟨bs,h1,h2⟩:=hz;subst hl;refine xSr hsz F hc hx hy r1 hp hi h1 hone (fun c hc hc2=>(hY c (r2 c hc)).2 (hN c (h2 c hc2))) (fun w' ib' q o hs _=>k w' (tr (Z:=rb) r2 o (B:=rw N1 1 R E v (l.set i z)) (Y1:=Y) ⟨rb,ib',q,r2,fun c hc=>?_⟩ hN (fun c hc=>⟨.inl hc,Nat.lt_of_lt_of_le (hY c hc).1 o.size⟩)))
  rcases hs c hc with h | h
  · exact r3 c h
  · exact .inr (h2 c h)
theorem oT {α:Type} {sz:Nat} {R:ER α} [hR:FrC sz R] {x hi:Operand} {t E:TypeId} {v:Value} {l r:List α} {j:Int} (ht:P.underlying t=some (.slice E)) (hsz:∀ w,(sizeOf E).run P w= .ok sz w)
    (F:Sk a n L) (hc:qH ops n L g d=true) (hx:ev L x=some v) (hhi:ev L hi=some (.int .i64 j)) (H:Sep X N w0 w (rw N1 sz R E v l::D)) (hs:sl l 0 j=some r)
    (k:∀ a' v',Sep X N w0 w (rw N1 sz R E v' r::D)→Sk a' n ((d,v')::L)→wpList P ops Q rest a' w):wpList P ops Q (⟨some d,.slice t x none (some hi) none,ty,pos,af,g⟩::rest) a w:=by
  obtain⟨Y,⟨rb,ib,r1,r2,r3⟩,hN,hY,tr⟩:=H.hd;exact xVe ht hsz F hc hx hhi r1 hs (fun a' v' ib' q hs F'=>k a' v' (tr (Z:=[]) (fun _ h=>nomatch h) (Only.refl _ _) (B:=rw N1 sz R E v' r) (Y1:=Y) ⟨rb,ib',q,r2,fun c hc=>r3 c (hs.subset hc)⟩ hN (fun c hc=>⟨.inl hc,(hY c hc).1⟩)) F')
theorem oSB {x:Operand} {t t' e:TypeId} {s:ByteArray} (hs:P.underlying t=some .string) (hd:P.underlying t'=some (.slice e)) (he:P.underlying e=some (.int .u8)) (F:Sk a n L) (hc:qH ops n L g d=true) (ex:ev L x=some (.string s)) (hz:s.size≤maxLen) (H:Sep X N w0 w D)
    (k:∀ a' w' v,Sep X N w0 w' (ro N0 (V:=Sl 1 aW) v s.data.toList::D)→Sk a' n ((d,v)::L)→wpList P ops Q rest a' w'):wpList P ops Q (⟨some d,.convert t t' x,ty,pos,af,g⟩::rest) a w:=by
  have hsz:s.data.toList.length=s.size:=rfl;have l:Below w.heap.size w (Lib.bytesWorld w e s):=⟨rfl,rfl,rfl,by rw[Lib.bytesWorld_size];omega,fun j hj=>Lib.bytesWorld_at_old w e s j hj⟩
  have hr:Rd (Sl 1 aW) (Lib.bytesWorld w e s) (.slice (some ⟨w.heap.size,0,none⟩) s.size (grownCap w s.size 0 e)) s.data.toList [w.heap.size]:=by
    refine⟨⟨some ⟨w.heap.size,0,none⟩,grownCap w s.size 0 e,by rw[hsz],by rw[hsz];exact grownCap_ge _ _ _ _,grownCap_le_maxLen _ _ _ _ hz,(fun h=>nomatch h),.inr ⟨w.heap.size,0,List.replicate s.data.toList.length [],rfl,by rw[List.flatten_replicate_nil],by simp,fun i y bi hy hbi=>?_⟩⟩,fun c hc=>by rw[List.mem_singleton] at hc;subst hc;rw[Lib.bytesWorld_size];omega⟩
    have hi:i<s.size:=by have:=(List.getElem?_eq_some_iff.1 hy).1;omega
    have hbi':=List.eq_of_mem_replicate (List.mem_of_getElem? hbi);refine⟨?_,hbi'⟩;have hc:=Lib.bytesWorld_cell w e s i hi;rw[List.getD_eq_getElem?_getD,hy] at hc
    simpa using hc
  refine qX (w':=Lib.bytesWorld w e s) F hc ?_ (fun a' F'=>k a' _ _ (H.push l (A:=ro N0 (V:=Sl 1 aW) (.slice (some ⟨w.heap.size,0,none⟩) s.size (grownCap w s.size 0 e)) s.data.toList) (Y0:=[w.heap.size]) ⟨[w.heap.size],hr,fun c hc=>.inl hc⟩ n0 (fun c hc=>by rw[List.mem_singleton] at hc;subst hc;rw[Lib.bytesWorld_size];omega)) F')
  unfold execOp
  simp only[F.ev ex]
  simp [Lib.run_convert_string_bytes w t t' e s hs hd he]
theorem oK {f:FuncId} {xs:List Operand} {at':Array TypeId} {vs:List Value} {v:Value} (F:Sk a n L) (hc:qH ops n L g d=true) (hf:∀ args w,(callFunc f args).run P w= .ok (.enter f args) w) (e:evs L xs=some vs) (H:Sep X N w0 w D) (cl:Calls P f vs.toArray w (xDj v w))
    (k:∀ a' w',Sep X N w0 w' D→Sk a' n ((d,v)::L)→wpList P ops Q rest a' w'):wpList P ops Q (⟨some d,.call ⟨.value (.func f),xs.toArray,at'⟩,ty,pos,af,g⟩::rest) a w:=
  xRo F hc hf e cl (fun a' w' l F'=>k a' w' (H.go l) F')
theorem oKI {f:FuncId} {xs:List Operand} {at':Array TypeId} {vs:List Value} {i:Int} (F:Sk a n L) (hc:qH ops n L g d=true) (hf:∀ args w,(callFunc f args).run P w= .ok (.enter f args) w) (e:evs L xs=some vs) (H:Sep X N w0 w D) (cl:Calls P f vs.toArray w (oAx i w))
    (k:∀ a' w',Sep X N w0 w' D→xH i→Sk a' n ((d,.int .i64 i)::L)→wpList P ops Q rest a' w'):wpList P ops Q (⟨some d,.call ⟨.value (.func f),xs.toArray,at'⟩,ty,pos,af,g⟩::rest) a w:=
  xRo F hc hf e (cl.mono fun e w' h=>h.1) (fun a' w' l F'=>k a' w' (H.go l) (let ⟨_,_,h⟩:=Calls.some cl;h.2) F')
def Gv (Φ:Value→World→Prop) (e:Ending) (w':World):Prop:=∃ v,e= .returned v∧Φ v w'
theorem oG {f:FuncId} {xs:List Operand} {at':Array TypeId} {vs:List Value} {Φ:Value→World→Prop} (F:Sk a n L) (hc:qH ops n L g d=true) (hf:∀ args w,(callFunc f args).run P w= .ok (.enter f args) w) (e:evs L xs=some vs) (cl:Calls P f vs.toArray w (Gv Φ))
    (k:∀ a' v w',Φ v w'→Sk a' n ((d,v)::L)→wpList P ops Q rest a' w'):wpList P ops Q (⟨some d,.call ⟨.value (.func f),xs.toArray,at'⟩,ty,pos,af,g⟩::rest) a w:=
  xNh (Φ:=Φ) F hc hf e cl (fun e w' h=>h) k
theorem oGV {c:Operand} {f:FuncId} {lb:List Value} {xs:List Operand} {at':Array TypeId} {vs:List Value} {Φ:Value→World→Prop} (F:Sk a n L) (hc:qH ops n L g d=true) (hcal:ev L c=some (.func (.func f) #[] lb.toArray)) (hf:∀ args w,(callFunc f args).run P w= .ok (.enter f args) w) (e:evs L xs=some vs) (cl:Calls P f (vs++lb).toArray w (Gv Φ))
    (k:∀ a' v w',Φ v w'→Sk a' n ((d,v)::L)→wpList P ops Q rest a' w'):wpList P ops Q (⟨some d,.call ⟨.value c,xs.toArray,at'⟩,ty,pos,af,g⟩::rest) a w:=
  xWv (Φ:=Φ) F hc hcal hf e cl (fun e w' h=>h) k
theorem xD {Q:Exit→Act→World→Prop} {id:Nat} {l:List Oper} (H:Sep X N w0 w D) (hm:P.follows .mixedOrders=true)
    (h:∀ w',Sep X N w0 w' D→zV P l.toArray (fun a w=>Q .normal a w) (Sm N) l.length (Array.replicate l.length false) a w'):(Code.region id l.toArray true).wp P Q a w:=by
  refine wp_region_any hm ?_;have:=wR (Q:=Q) (fun _ _ h=>h) _ _ _ _ (h w.drew H.drew);rw[← List.size_toArray] at this;exact this
theorem Sep.k {X':List Nat} {D':List As} {w':World} (H:Sep X N w0 w D) (H':Sep X' N w0 w' D'):Sm N w w':=⟨fun c hc=>(H'.sm.blk c hc).trans (H.sm.blk c hc).symm⟩
theorem xE {Nn:Act→World→Prop} {f:Nat} {listed:Array Bool} (H:Sep X N w0 w D) (i:Nat) {oi:Oper} (hi:ops[i]?=some oi) (hr:Region.ready .any ops listed=[i])
    (h:wpList P ops (Exit.then (fun a' w'=>(∃ D',Sep X N w0 w' D')∧zV P ops Nn (Sm N) f (listed.setIfInBounds i true) a' w') QF) [oi] a w):zV P ops Nn (Sm N) (f+1) listed a w:=
  b_e i hi hr (rK (fun e a w q=>by
    cases e<;>first | exact q | (obtain⟨⟨D',H'⟩,q⟩:=q;exact⟨.inl (H.k H'),q⟩)) h)
theorem xEs {R:Act→World→Prop} {Fn:Prop} {l:List Oper} (H:Sep X N w0 w D) (h:wpList P ops (Exit.then (fun a' w'=>(∃ D',Sep X N w0 w' D')∧R a' w') QF) l a w):wpList P ops (Exit.then (fun a' w'=>(Sm N w w'∨Fn)∧R a' w') QF) l a w:=
  rK (fun e a w q=>by
    cases e<;>first | exact q | (obtain⟨⟨D',H'⟩,q⟩:=q;exact⟨.inl (H.k H'),q⟩)) h
theorem rZ {C:World→Prop} {K K':Act→Prop} (hK:∀ a,K a→K' a):∀ {l:List Oper} {a:Act},wpQuiet P ops C K l a→wpQuiet P ops C K' l a
  | [],a,h=>hK a h
  | o::r,a,h=>by
    unfold wpQuiet at h ⊢
    split
    · rename_i hw
      rw[if_pos hw] at h;obtain⟨v,h1,h2⟩:=h;exact⟨v,h1,rZ hK h2⟩
    · rename_i hw
      rw[if_neg hw] at h;exact rZ hK h
theorem xQ {Q:Exit→Act→World→Prop} {id:Nat} {l:List Oper} (H:Sep X N w0 w D) (hm:P.follows .mixedOrders=true) (hlex:Region.lexB .any l.toArray=true)
    (h:wpQuiet P l.toArray (fun w'=>Below w.heap.size w w') (fun a'=>∀ w',Sep X N w0 w' D→Q .normal a' w') l a):(Code.region id l.toArray true).wp P Q a w:=
  oAn hm hlex (rZ (fun a' h w' l=>h w' (H.go l)) h)
theorem xDa {Q:Exit→Act→World→Prop} {id:Nat} {l:List Oper} (H:Sep X N w0 w D) (h:∀ w',Sep X N w0 w' D→zV P l.toArray (fun a w=>Q .normal a w) (Sm N) l.length (Array.replicate l.length false) a w') (hm:P.follows .mixedOrders=true:=by kernel_rfl):(Code.region id l.toArray true).wp P Q a w:=xD H hm h
theorem xEa {Nn:Act→World→Prop} {f:Nat} {listed:Array Bool} (H:Sep X N w0 w D) (i:Nat) {oi:Oper} (hi:ops[i]?=some oi) (h:wpList P ops (Exit.then (fun a' w'=>(∃ D',Sep X N w0 w' D')∧zV P ops Nn (Sm N) f (listed.setIfInBounds i true) a' w') QF) [oi] a w) (hr:Region.ready .any ops listed=[i]:=by kernel_rfl):zV P ops Nn (Sm N) (f+1) listed a w:=xE H i hi hr h
theorem xQa {Q:Exit→Act→World→Prop} {id:Nat} {l:List Oper} (H:Sep X N w0 w D) (h:wpQuiet P l.toArray (fun w'=>Below w.heap.size w w') (fun a'=>∀ w',Sep X N w0 w' D→Q .normal a' w') l a) (hm:P.follows .mixedOrders=true:=by kernel_rfl) (hlex:Region.lexB .any l.toArray=true:=by kernel_rfl):(Code.region id l.toArray true).wp P Q a w:=xQ H hm hlex h
end
end Go.Proofs.YtlommebgedmjdaaGreatDoor
