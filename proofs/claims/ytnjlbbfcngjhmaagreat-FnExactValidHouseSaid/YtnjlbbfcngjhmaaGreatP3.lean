import Derived.Test.YtnjlbbfcngjhmaaGreatP2
namespace Go.Proofs.YtnjlbbfcngjhmaaGreat
set_option linter.unusedVariables false
set_option linter.unusedSimpArgs false
open Go.Proofs.Tryz
set_option maxHeartbeats 1000000
set_option maxRecDepth 100000
open Go.RowKit
variable {B:Nat->Prop} {N:Nat}
def vX (N:Nat) (e:A6) (i j:Int):Option (Op×Int):= xG (nR (A6.mk e.size e.rels) i) λh=>if (h != 0) then some ((Op.mk 0 ([])),h) else xG (zZ j 1 10) λp=>if (!p) then some ((Op.mk 0 ([])),2) else xG (gF N (A6.mk e.size e.rels) i) λc=>if (c.2 != 0) then some ((Op.mk 0 ([])),c.2) else oZ (σ:=(List Int)×Int×Bool) (mL (λs=>match s with | (t,x,y)=>xG (eK N c.1.1 c.1.2.1 c.1.2.2.1 c.1.2.2.2.1 c.1.2.2.2.2.1 t x y) λd=>if (d.2.1 != 0) then some (.ret ((Op.mk 0 ([])),d.2.1)) else if (!d.1) then some (.ret ((Op.mk 0 ([])),6)) else xG (gW c.1.1 c.1.2.1 c.1.2.2.1 c.1.2.2.2.1 c.1.2.2.2.2.1 d.2.2.1 d.2.2.2.1 d.2.2.2.2) λf=>xG (aZ N e.size (Op.mk f.arity f.table) j) λz=>if z then some (.ret ((Op.mk f.arity f.table),0)) else some (.go (d.2.2.1,d.2.2.2.1,d.2.2.2.2))) N (c.1.2.2.2.2.2.1,c.1.2.2.2.2.2.2.1,c.1.2.2.2.2.2.2.2)) λ(A,B,C)=>some ((Op.mk 0 ([])),0)
theorem nO {K i e} (r) (hR:vX N K i e=some r) {x} (y) (hN:HN B y) (A0:Bo B y (qS 2 xB) x K) (t:xL i) (G:xL e):CG B y 58 #[x,xA i,xA e] (.v λI=>.fa (xL r.1.arity) <| .fa (xL r.2) <| .st (.tuple #[.agg #[xA r.1.arity,I],xA r.2]) λD=>rl 1 xF 2 I r.1.table::D):=by
 unfold vX at hR
 revert r
 refine vM func58 [(0,x),(1,xA i),(2,xA e)] hN λr=>?_;refine xI ?_;obtain⟨v1,rfl,j,z⟩:=xB.o A0;refine jX e2 λb1=>aK rfl λp=>xK 1 rfl (jo rfl (jB λa4 c1=>(jk (λH=>xIl a4 c1 _ aA (xB.b (H.g 1 rfl).bk j (H.a z)) t) λa3=>xM 1 rfl (xC 2 rfl ?_))));refine xT ?_ ?_
 ·refine xI (oV e5 (jo rfl (zX e3 (oE 1 rfl ?_))));exact nJ (λH=>(H.nl 1 xF 2).s [0] rfl rfl) (dA 0 e2) (rt rfl) ⟨_,xO,a3,lv⟩
 refine vT (jo rfl (jB λz1 c2=>(jk (λH=>kH z1 c2 _ aA G zL xPn) (xC 1 rfl (xT ?_ ?_)))))
 ·refine xI (oV e5 (zX e3 (oE 1 rfl ?_)));exact nJ (λH=>(H.nl 1 xF 2).s [0] rfl rfl) (dA 0 e2) (rt rfl) ⟨_,xO,rH,lv⟩
 refine xY (jB λc L=>(jbs (λd=>?_) (λd=>?_)))
 ·refine lP (jo rfl (js [1,0] rfl (cZ λ_ _ _ _ g1 e1 a5 _=>?_)));have K1:=g1.bk;refine jk (λH=>gz1 d (xAh c L _ H.hN (xB.b (K1.to H.sm) j (H.u (e1 z))) t)) λi2=>xK 5 rfl (xC 2 rfl (kO d (xI (oV e5 (jo rfl (zX e3 (jo rfl ?_)))))));refine xTs (aI a5 ?_);exact nJ (λH=>(H.nl 1 xF 2).s [0] rfl rfl) (dA 1 e2) (rt rfl) ⟨_,xO,i2,lv⟩
 refine lP (jo rfl (js [1,0] rfl (cZ λw1 X1 N1 _ g2 e4 f _=>?_)));have M:=g2.bk;refine jkB (λH=>gz2 d (xAh c L _ H.hN (xB.b (M.to H.sm) j (H.u (e4 z))) t)) λO v2 P Q R v6 S T i4 _=>xK 5 rfl (xC 2 rfl (kJ d (xTx ?_)));refine qZ (λ(s1,U,s3)=>.fa (xL U) <| .st [(6,oK p),(7,xA 0)] [bx p [xA 0,kW] 85]) ?_ (λ(s1,U,s3) _=>?_)
 ·
  refine zK ?_;refine jw (λ(W,A,X)=>.v λC=>.fa (xL A) <| .st [(2,xA e),(3,oK b1),(6,oK p),(9,oK O)] [bx O [v2,xA c.1.2.1,P,Q,R,C,xA A,.bool X] 213,rw N1 1 (RP 3 kQ) 214 P c.1.2.2.1,rl 1 (kP 2 qY) 281 Q c.1.2.2.2.1,rl 1 xF 2 R c.1.2.2.2.2.1,rl 1 xF 2 C W,bx p [xA 0,kW] 85]) ⟨_,i4,ls⟩ (λ_ (W,A,X) C i5=>?_);refine qE (jo rfl (js [1,2,3,0,4,5] rfl (jh (λH=>H.mg) (jh (λH=>H.mg) (cZ λw2 X2 N2 _ E F h _=>?_)))));have Y:=E.l.l.rd;have Z:=E.l.r.ld;have h5:=E.r.ld;refine jB λz3 c4=>(jko 2 (λK3 H=>xEh z3 c4 _ H.hN K3 (H.u (F S)) T (H.u Y) (H.u Z) (H.u h5) i5) λv8 i6 i7=>xK 5 rfl (xC 2 rfl (xT ?_ ?_)))
  ·refine xI (oV e5 (jo rfl (js [2,0,1] rfl (zX e3 (jo rfl (xLt (fZ (zR (fH (aI h ?_))))))))));refine jh (λH=>H.um) (jh (λH=>H.um) (js [1,2,3,4,5] rfl (aI f ?_)));exact nJ (λH=>(H.nl 1 xF 2).s [0] rfl rfl) (dA 3 e2) (rt rfl) ⟨_,xO,i6,lv⟩
  refine vT (xC 2 rfl (xT ?_ ?_))
  ·refine xI (oV e5 (js [2,0,1] rfl (zX e3 (jo rfl (xLt (fZ (zR (fH (aI h (jh (λH=>H.um) ?_))))))))));refine jh (λH=>H.um) (js [1,2,3,4,5] rfl (aI f ?_));exact nJ (λH=>(H.nl 1 xF 2).s [0] rfl rfl) (dA 3 e2) (rt rfl) ⟨_,xO,sS,lv⟩
  refine qR (jo rfl (jB λz4 c5=>(jko 2 (λK4 H=>xHi z4 c5 _ H.hN K4 (H.u (F S)) T (H.u Y) (H.u Z) (H.u h5) i7) λv9 i8=>aK rfl (λ_=>?_))));refine zX (hv:=(λH=>oc rfl (oc (H.l 1 rfl).one on))) e3 (qW (xZ e2 (jbK (M.lf F) e2 (jo rfl (jB λz5 c6=>(jk (λH=>xBi z5 c6 _ aA j (vU.b (H.g 0 rfl).bk i8 (H.l 1 rfl)) G) (kD (xT ?_ ?_))))))))
  ·refine xI (aG 0 e3 (js [4,0,1,2,3] rfl ?_));refine zX (hv:=(λH=>oc rfl (oc (H.l 2 rfl).one on))) e3 (bA 1 rfl (fZ (zR (fH (aI h (jh (λH=>H.um) (jh (λH=>H.um) (js [1,2,3,4,5,6,7] rfl (aI f ?_)))))))));exact nJ (λH=>H.s [5] rfl rfl) (dA 3 e2) (rt rfl) ⟨_,i8,xO,lv⟩
  refine oFu (js [2,3,4] rfl (aI h (jh (λH=>H.um) (jh (λH=>H.um) (js [3,0,1,2,4,5] rfl ?_)))));exact jg ⟨_,i7,ls⟩
 refine a_z (aI f ?_);exact nJ (λH=>(H.nl 1 xF 2).s [0] rfl rfl) (dA 1 e2) (rt rfl) ⟨_,xO,xO,lv⟩
def eU (N:Nat) (c:Int):Option Op:= xG (ck (c*c)) λf=>xG (ck (f*c)) λh=>oZ (σ:=List Int) (qM (λi j=>xG (vZ N c 3 (i:Int)) λd=>xG (ix d 0) λp=>xG (ix d 1) λt=>xG (ck (p - t)) λx=>xG (ix d 2) λy=>xG (ck (x+y)) λz=>xG (kF z c) λA=>xG (ap j ([A])) λe=>some (.go e)) h.toNat 0 []) λB=>some ((Op.mk 3 B))
theorem wY {d} (r) (L:eU N d=some r) (y) (hN:HN B y) (t:xL d):CG B y 61 #[xA d] (.v λx=>.fa (xL r.arity) <| .st (.agg #[xA r.arity,x]) λD=>rl 1 xF 2 x r.table::D):=by
 unfold eU at L
 revert r
 refine vM func61 [(0,xA d)] hN λr=>?_;refine xI (aK rfl λf=>qW (oV e5 (aK rfl λh=>zX e3 (dZ (xC 1 rfl (jB λz1 z=>(jB λz2 e=>?_)))))));refine qZ (λM=>.v λi=>.st [(2,oK f),(3,oK h)] [rl 1 xF 2 i M,bx h [xA 3,i] 85,bx f [xA 0,kW] 85]) ?_ (λ_ i=>?_)
 ·
  refine zK (jh (λH=>H.nl 1 xF 2) ?_);refine jc (λA C=>.v λj=>.st [(4,xA (A:Int)),(0,xA d),(2,oK f),(3,oK h)] [rl 1 xF 2 j C,bx h [xA 3,j] 85,bx f [xA 0,kW] 85]) ⟨_,ls⟩ (λ_ C _ c j=>?_) (λ_ A _ c _=>?_)
  ·have O:=vD c;refine xR (jA 3 rfl (wT z (jo rfl (wT e (xC 1 rfl (kJ O (xN ?_)))))));exact jf ⟨_,ls⟩
  refine xR (jA 3 rfl (wT z (jo rfl (wT e (xC 1 rfl (kO (qP c) (xY (qE (jA 2 rfl ?_)))))))));refine jB λP Q=>(jk (λH=>bM P Q _ aA t lL (dT c (kA e))) λ_=>xC 1 rfl (jB λz4 R=>(jB λz5 S=>(jB λz6 T=>(jB λz7 U=>(jB λz8 E=>(jB λW X=>(jB λa2 Y=>?_))))))));refine js [0,2,1,3] rfl (jh (λH=>H.mg) (cZ λ_ _ _ _ G _ I _=>?_));have p:=G.l.ld;refine jD (kB 0 rfl e2 (iG 1 rfl G.r.bk e2 (zF [2] rfl (pQ 3 rfl p R λ_ Z=>aW 4 rfl Z λ_=>zF [5] rfl (pQ 6 rfl p S λ_ h3=>aW 7 rfl h3 λ_=>jvz 8 rfl (λF H w l=>xBb F rfl rfl T) (zF [9] rfl ?_))))));refine pQ 10 rfl p U λ_ h4=>aW 11 rfl h4 λ_=>jvz 12 rfl (λF H w l=>wH F rfl rfl E) (zF [13] rfl (jE 14 rfl (jk (λH=>lB W X _ aA (kA E) t) λK=>qK (jE 15 rfl (lQ (λH=>Eo.int K) λ_=>qK (jF9 16 rfl ?_))))));refine js [1,0,2] rfl (jPL Y λv3=>kD (jF9 17 rfl (xZ e2 (kD (jF9 18 rfl (aI I (jh (λH=>H.um) (js [1,0,2,3] rfl (jW (hv:=(λH=>(H.l 2 rfl).one)) e3 ?_)))))))));refine kD (iT (aH (jo rfl (xU (vY c (kA e)) (xC 1 rfl (js [2,0,3] rfl ?_))))));exact jg ⟨_,ls⟩
 refine oO (aG 1 e3 (js [2,0,1] rfl ?_));refine zX (hv:=(λH=>oc rfl (oc (H.l 1 rfl).one on))) e3 (pM ?_);exact j1m (λH=>H.s [1] rfl rfl) (dA 0 e2) ⟨_,lL,lv⟩
def gI (N:Nat) (c:Int) (d:Rel):Option Bool:= xG (eU N c) λe=>oZ (σ:=Bool) (if (decide (0<(d.tuples.length:Int))) then  xG (zY N c (Op.mk e.arity e.table) d) λf=>some (.nx f) else  some (.nx false)) λh=>some h
theorem xFs {c i} (r) (j:gI N c i=some r) {d} (e) (hN:HN B e) (h:xL c) (f:Bo B e (Pt 2 oQ) d i):CG B e 60 #[xA c,d] (.st (.bool r) λD=>D):=by
 unfold gI at j
 revert r
 refine vM func60 [(0,xA c),(1,d)] hN λr=>?_;refine xI (xM 1 rfl (jo rfl (jB λp t=>(jk (λH=>wY p t _ aA h) λF x=>aK rfl (λ_=>?_)))));refine zX (hv:=(λH=>oc rfl (oc (H.l 1 rfl).one on))) e3 (yD (qZ (λy=>.st [(4,.bool y)] []) ?_ (λ_=>?_)))
 ·
  refine lP (jo rfl (jN f (aF f oQ.f1 λ_ z=>aR z λ_ A=>jL A λ_=>jA 2 rfl (fD 14 (λ_=>?_) (λ_=>?_)))))
  ·refine jA 2 rfl (jB λC E=>(jk (λH=>xAg C E _ aA h (vU.b (H.g 0 rfl).bk x (H.l 1 rfl)) (H.a f)) (xC 2 rfl (js [] rfl ?_))));exact jf ls
  refine xC 5 rfl (js [] rfl ?_);exact jf ls
 refine nH ?_;exact qT (rt rfl) lv
def mK (N:Nat) (c:A6):Option (Int×Op×Int):= oZ (σ:=Bool) (oM (λE (j:Rel) p=>oZ (σ:=Bool) (if p then  some (.nx (decide (0<(j.tuples.length:Int)))) else  some (.nx false)) λt=>some (.go t)) c.rels 0 true) λx=>oZ (σ:=Int) (mL (λd=>oZ (σ:=Bool) (if (decide (d<c.size)) then  some (.nx x) else  some (.nx false)) λy=>if y then xG (bB N c.size 1 d) λe=>xG (aN N c (Op.mk e.1.arity e.1.table)) λz=>if (z==(-1)) then some (.ret (1,(Op.mk e.1.arity e.1.table),0)) else xG (ck (d+1)) λA=>some (.go A) else some (.brk d)) N 0) λF=>xG (vX N c 2 6) λf=>if (f.2==0) then some (2,(Op.mk f.1.arity f.1.table),0) else xG (vX N c 3 7) λh=>if (h.2==0) then some (3,(Op.mk h.1.arity h.1.table),0) else xG (eE c.size) λB=>if (!B) then some (0,(Op.mk 0 ([])),6) else oZ (σ:=Unit) (oM (λG (C:Rel) s=>match s with | _=>xG (gI N c.size C) λD=>if (!D) then some (.ret (0,(Op.mk 0 ([])),6)) else some (.go ())) c.rels 0 ()) λ_=>xG (eU N c.size) λi=>some (4,(Op.mk i.arity i.table),0)
theorem xGd {z} (r) (hR:mK N z=some r) {e} (p) (hN:HN B p) (c:Bo B p (Pt 2 xB) e z):CG B p 34 #[e] (.v λy=>.fa (xL r.1) <| .fa (xL r.2.1.arity) <| .fa (xL r.2.2) <| .st (.tuple #[xA r.1,.agg #[xA r.2.1.arity,y],xA r.2.2]) λD=>rl 1 xF 2 y r.2.1.table::D):=by
 unfold mK at hR
 revert r
 refine vM func34 [(0,e)] hN λr=>?_;refine xI (jo rfl (aK rfl λd=>xM 1 rfl (xK 1 rfl (xC 1 rfl ?_))));refine qZ (λf=>.st [(0,e),(3,oK d),(5,.bool f)] [bx d [xA 0,kW] 85]) ?_ (λf=>?_)
 ·
  refine zK ?_;refine jl (λt x=>.st [(6,xA (t:Int)),(0,e),(3,oK d),(5,.bool x)] [bx d [xA 0,kW] 85]) ls (λ_ x _ q1=>?_) (λt x1 x i y1=>?_)
  ·have l1:=oU q1;refine xR (jA 2 rfl (jN c (aF c xB.f1 λ_ h1=>aR h1 λ_ h2=>jL h2 λ_=>xC 1 rfl (kJ l1 (xN ?_)))));exact jf ls
  refine xR (jA 2 rfl (jN c (aF c xB.f1 λ_ h3=>aR h3 λ_ h4=>jL h4 λA=>xC 1 rfl (kO (xX i) (xY ?_)))));have j1:=dS (Ah i) A;refine zK ?_;refine qZ (λC=>.st [(0,e),(3,oK d),(5,.bool C),(6,xA (t:Int))] [bx d [xA 0,kW] 85]) ?_ (λC=>?_)
  ·
   refine lP (jA 2 rfl (fD 25 (λ_=>?_) (λ_=>?_)))
   ·refine jo rfl (jN c (aF c xB.f1 λ_ h5=>aR h5 λ_ h6=>jo rfl (jI h6 y1 λ_ h7=>aF h7 oQ.f1 λ_ h8=>aR h8 λ_ h9=>jL h9 λ_=>xC 3 rfl ?_)));exact jf ls
   refine xC 12 rfl ?_;exact jf ls
  refine aH (jo rfl (xU (qG i A) (xC 1 rfl ?_)));exact jg ls
 refine cF (xC 1 rfl ?_);refine qZ (λs4=>.fa (xL s4) <| .st [(0,e),(3,oK d)] [bx d [xA 0,kW] 85]) ?_ (λ_ _=>?_)
 ·
  refine zK ?_;refine jw (λh=>.fa (xL h) <| .st [(0,e),(3,oK d),(5,.bool f),(7,xA h)] [bx d [xA 0,kW] 85]) ⟨xO,ls⟩ λ_ h E=>xRj ?_;refine qZ (λs6=>.st [(0,e),(3,oK d),(5,.bool f),(7,xA h),(45,.bool s6)] [bx d [xA 0,kW] 85]) ?_ (λ_=>?_)
  ·
   refine lP (jA 2 rfl (jN c (aF c xB.f0 λ_ L=>aP L λ_=>jA 2 rfl (fD 43 (λ_=>?_) (λ_=>?_)))))
   ·refine xC 2 rfl ?_;exact jf ls
   refine xC 2 rfl ?_;exact jf ls
  refine eD (xT ?_ ?_)
  ·
   refine nK (jo rfl (jN c (aF c xB.f0 λ_ M=>aP M λi3=>jo rfl (jB λz1 c1=>(jk (λH=>wD z1 c1 _ aA i3 zL E) λv1 F _=>jA 3 rfl (aK rfl (λ_=>?_)))))));refine zX (hv:=(λH=>oc rfl (oc (H.l 1 rfl).one on))) e3 (xM 1 rfl (jo rfl (jB λz2 c2=>(jk (λH=>sP z2 c2 _ aA (H.a c) (vU.b (H.g 0 rfl).bk F (H.l 1 rfl))) λbd=>xC 1 rfl (xT ?_ ?_)))))
   ·refine a_s (cZ λ_ _ _ _ g1 _ O _=>(jD (rY 0 rfl g1.bk e2 (zF [1] rfl (jE 2 rfl (js [1,0] rfl ?_))))));refine zX (hv:=(λH=>oc rfl (oc (H.l 1 rfl).one on))) e3 (qK (zF [3] rfl (iT (xPm (fZ (zR (fH (lD (aI O ?_)))))))));exact j3m (λH=>H.s [2] rfl rfl) (rt rfl) (dA 1 e2) (rt rfl) ⟨_,zL,F,xO,lv⟩
   refine qJ (jo rfl (jB λz3 G=>(bN G (xC 1 rfl (js [2] rfl ?_)))));exact jg ⟨(kA G),ls⟩
  refine nS (jbk (wJ ?_));exact jf ⟨E,ls⟩
 refine oO (jo rfl (jN c (jlA c λ_ P=>jB λz4 c4=>(jk (λH=>nO z4 c4 _ aA (H.a P) rH sS) λv2 i5 _=>jA 3 rfl (aK rfl (λ_=>?_))))));refine zX (hv:=(λH=>oc rfl (oc (H.l 1 rfl).one on))) e3 (xK 1 rfl (xC 2 rfl (xT ?_ ?_)))
 ·refine a_s (cZ λ_ _ _ _ g2 _ Q _=>(jD (rY 0 rfl g2.bk e2 (zF [1] rfl (jE 2 rfl (js [1,0] rfl ?_))))));refine zX (hv:=(λH=>oc rfl (oc (H.l 1 rfl).one on))) e3 (qK (zF [3] rfl (iT (xRf (aI Q ?_)))));exact j3m (λH=>H.s [2] rfl rfl) (rt rfl) (dA 1 e2) (rt rfl) ⟨_,rH,i5,xO,lv⟩
 refine qR (jo rfl (jN c (jlA c λ_ R=>jB λz5 c5=>(jk (λH=>nO z5 c5 _ aA (H.a R) lL xNf) λv3 i6 _=>jA 3 rfl (aK rfl (λ_=>?_))))));refine zX (hv:=(λH=>oc rfl (oc (H.l 1 rfl).one on))) e3 (xK 1 rfl (xC 2 rfl (xT ?_ ?_)))
 ·refine a_s (cZ λ_ _ _ _ g3 _ S _=>(jD (rY 0 rfl g3.bk e2 (zF [1] rfl (jE 2 rfl (js [3,0,1,2] rfl ?_))))));refine zX (hv:=(λH=>oc rfl (oc (H.l 1 rfl).one on))) e3 (qK (zF [3] rfl (iT (xRf (aI S ?_)))));exact j3m (λH=>H.s [2] rfl rfl) (rt rfl) (dA 1 e2) (rt rfl) ⟨_,lL,i6,xO,lv⟩
 refine vT (jo rfl (jN c (aF c xB.f0 λ_ T=>aP T λi7=>jB λz6 c6=>(jk (λH=>sI z6 c6 _ aA i7) (xC 1 rfl (xT ?_ ?_))))))
 ·refine xI (oV e5 (jo rfl (js [4,0,1,2,3] rfl (zX e3 (oE 1 rfl ?_)))));exact j3m (λH=>(H.nl 1 xF 2).s [0] rfl rfl) (rt rfl) (dA 0 e2) (rt rfl) ⟨_,xO,xO,sS,lv⟩
 refine vT (xC 1 rfl ?_);refine qZ (λ_=>.st [(0,e),(3,oK d)] [bx d [xA 0,kW] 85]) ?_ (λ_=>?_)
 ·
  refine zK (js [4] rfl ?_);refine jl (λI _=>.st [(14,xA (I:Int)),(0,e),(3,oK d)] [bx d [xA 0,kW] 85]) ls (λ_ _ _ q2=>?_) (λI _ _ j y2=>?_)
  ·have l2:=oU q2;refine xR (jA 2 rfl (jN c (aF c xB.f1 λ_ U=>aR U λ_ W=>jL W λ_=>xC 1 rfl (kJ l2 (xN ?_)))));exact jf ls
  refine xR (jA 2 rfl (jN c (aF c xB.f1 λ_ X=>aR X λ_ Y=>jL Y λK=>xC 1 rfl (kO (xX j) (xY ?_)))));have j2:=dS (Ah j) K;refine uV (jQ (zA 1 rfl (jqN c (cI c xB.f0 λ_ Z=>kI Z λi9=>zA 1 rfl (jqN c (cI c xB.f1 λ_ a0=>eZ a0 λ_ a1=>zA 1 rfl ?_))))));refine lM a1 y2 λ_ a2=>jB λz7 c7=>(jqk (λH=>xFs z7 c7 _ aA i9 (H.a a2)) (zA 1 rfl (nD (eD (xT ?_ ?_)))))
  ·refine xI (oV e5 (jo rfl (zX e3 (oY 1 rfl (fZ (zR (fH (lD ?_))))))));exact j3m (λH=>(H.nl 1 xF 2).s [0] rfl rfl) (rt rfl) (dA 0 e2) (rt rfl) ⟨_,xO,xO,sS,lv⟩
  refine qJ (jo rfl (xU (qG j K) (xC 1 rfl ?_)));exact jg ls
 refine oO (jo rfl (jN c (aF c xB.f0 λ_ a3=>aP a3 λa4=>jB λz8 c8=>(jk (λH=>wY z8 c8 _ aA a4) λv4 a5=>jo rfl (js [1,0] rfl ?_)))));refine zX (hv:=(λH=>oc rfl (oc (H.l 1 rfl).one on))) e3 (xS 1 rfl ?_);exact j3m (λH=>H.s [1] rfl rfl) (rt rfl) (dA 0 e2) (rt rfl) ⟨_,uC,a5,xO,lv⟩
def mI (c:Rel) (d:List Int):Option Bool:= oZ (σ:=Unit) (oM (λh (e:(List Int)) s=>match s with | _=>xG (mV e d) λf=>if f then some (.ret true) else some (.go ())) c.tuples 0 ()) λ_=>some false
theorem wL {i j} (r) (x:mI i j=some r) {d e} (f) (hN:HN B f) (c:Bo B f (Pt 2 oQ) d i) (y:Bo B f (Sl 1 xF) e j):CG B f 169 #[d,e] (.st (.bool r) λD=>D):=by
 unfold mI at x
 revert r
 refine vM func169 [(0,d),(1,e)] hN λr=>?_;refine xI (xK 1 rfl (xC 1 rfl (qZ (λ_=>.st [] []) ?_ (λ_=>?_))))
 ·
  refine zK (jl (λp _=>.st [(5,xA (p:Int)),(0,d),(1,e)] []) ls (λ_ _ _ z=>?_) (λp _ _ h A=>?_))
  ·have C:=oU z;refine xR (jA 2 rfl (jN c (aF c oQ.f1 λ_ E=>aR E λ_ F=>jL F λ_=>xC 1 rfl (kJ C (xN ?_)))));exact jf ls
  refine xR (jA 2 rfl (jN c (aF c oQ.f1 λ_ G=>aR G λ_ I=>jL I λt=>xC 1 rfl (kO (xX h) (xY ?_)))));have j1:=dS (Ah h) t;refine qE (jo rfl (jN c (aF c oQ.f1 λ_ K=>aR K λ_ L=>jo rfl (jI L A λ_ M=>aR M λ_ N=>jo rfl (jB λO P=>(jk (λH=>xBg O P _ aA (H.a N) (H.a y)) ?_))))));refine kD (xT ?_ ?_)
  ·refine xI (oY 1 rfl (fZ (zR (fH (lD ?_)))));exact qT (rt rfl) lv
  refine qJ (jo rfl (xU (qG h t) (xC 1 rfl ?_)));exact jg ls
 refine oO (xS 1 rfl ?_);exact qT (rt rfl) lv
def bR (d:A6) (c:Con) (e:List Int):Option Bool:= xG (ix d.rels c.rel) λf=>xG (rI e c.scope) λh=>xG (mI f h) λi=>some i
theorem xHu {i j p} (r) (y:bR i j p=some r) {e f h} (c) (hN:HN B c) (t:Bo B c (Pt 2 xB) e i) (d:Bo B c (Pt 2 vS) f j) (z:Bo B c (Sl 1 xF) h p):CG B c 109 #[e,f,h] (.st (.bool r) λD=>D):=by
 unfold bR at y
 revert r
 refine vM func109 [(0,e),(1,f),(2,h)] hN λr=>?_;refine xI (xW 1 rfl (jB λO A=>(jB λC E=>(jB λF x=>(jD (zF [0] rfl (jvN 1 rfl t (iO 2 rfl t xB.f1 λ_ G=>rK 3 rfl G (λ_ I=>?_)))))))));refine zF [4] rfl (jvN 5 rfl d (iO 6 rfl d vS.f0 λ_ K=>aW 7 rfl K λ_=>pQ 8 rfl I A λ_ L=>zF [9,10] rfl (jvN 11 rfl d (iO 12 rfl d vS.f1 λ_ M=>rK 13 rfl M λ_ N=>jE 14 rfl (jk (λH=>xEz C E _ aA (H.a z) (H.a N)) (λ_=>?_))))));refine qK (jE 15 rfl (jk (λH=>wL F x _ aA (H.a L) (H.l 0 rfl)) (qK (zF [16] rfl (iT (nH ?_))))));exact qT (rt rfl) lv
def cD (c:A6) (d:A7) (e:List Int):Option Int:= oZ (σ:=Unit) (oM (λf (h:Con) s=>match s with | _=>xG (bR c h e) λi=>if (!i) then some (.ret ((f:Int))) else some (.go ())) d.cons 0 ()) λ_=>some ((-1))
theorem xFf {j p t} (r) (z:cD j p t=some r) {e f h} (d) (hN:HN B d) (A:Bo B d (Pt 2 xB) e j) (c:Bo B d (Pt 2 xH) f p) (C:Bo B d (Sl 1 xF) h t):CG B d 62 #[e,f,h] (.fa (xL r) <| .st (xA r) λD=>D):=by
 unfold cD at z
 revert r
 refine vM func62 [(0,e),(1,f),(2,h)] hN λr=>?_;refine xI (xK 1 rfl (xC 1 rfl (qZ (λ_=>.st [] []) ?_ (λ_=>?_))))
 ·
  refine zK (jl (λx _=>.st [(7,xA (x:Int)),(0,e),(1,f),(2,h)] []) ls (λ_ _ _ E=>?_) (λx _ _ i F=>?_))
  ·have G:=oU E;refine xR (jA 2 rfl (jN c (aF c xH.f1 λ_ I=>aR I λ_ K=>jL K λ_=>xC 1 rfl (kJ G (xN ?_)))));exact jf ls
  refine xR (jA 2 rfl (jN c (aF c xH.f1 λ_ L=>aR L λ_ M=>jL M λy=>xC 1 rfl (kO (xX i) (xY (qE ?_))))));refine jA 2 rfl (jN c (aF c xH.f1 λ_ N=>aR N λ_ O=>jo rfl (jI O F λ_ P=>jo rfl (jB λQ R=>(jk (λH=>xHu Q R _ aA (H.a A) (H.a P) (H.a C)) (xC 1 rfl ?_))))));refine xT ?_ ?_
  ·refine xI (oY 2 rfl (fZ (zR (fH (lD ?_)))));exact qT (rt rfl) ⟨(dS (Ah i) y),lv⟩
  refine qJ (jo rfl (xU (qG i y) (xC 1 rfl ?_)));exact jg ls
 refine oO (xS 1 rfl ?_);exact qT (rt rfl) ⟨bC,lv⟩
def bF (N:Nat) (c:A6) (d:A7) (e:Int):Option (B0×Int):= xG (iS (A6.mk c.size c.rels) (A7.mk d.vars d.cons)) λi=>if (!i) then some ((B0.mk 0 ([]) ([]) ([]) ([])),1) else xG (ck (c.size - 1)) λj=>xG (zZ e 0 j) λp=>if (!p) then some ((B0.mk 0 ([]) ([]) ([]) ([])),2) else xG (bB N c.size 1 e) λf=>xG (aN N (A6.mk c.size c.rels) (Op.mk f.1.arity f.1.table)) λt=>if (t != (-1)) then some ((B0.mk 0 ([]) ([]) ([]) ([])),4) else oZ (σ:=List Int) (qM (λA x=>xG (ap x ([e])) λy=>some (.go y)) d.vars.toNat 0 []) λh=>xG (cD (A6.mk c.size c.rels) (A7.mk d.vars d.cons) h) λz=>if (z != (-1)) then some ((B0.mk 0 ([]) ([]) ([]) ([])),6) else some ((B0.mk 0 h ([]) ([]) ([])),0)
theorem yP {e f d} (r) (R:bF N e f d=some r) {A C} (h) (hN:HN B h) (S:Bo B h (qS 2 xB) A e) (T:Bo B h (qS 2 xH) C f) (y:xL d):CG B h 35 #[A,C,xA d] (.v λG=>.fa (xL r.1.kind) <| .fa (xL r.2) <| .st (.tuple #[.agg #[xA r.1.kind,G,kW,kW,kW],xA r.2]) λD=>rl 1 xF 2 G r.1.values::D):=by
 unfold bF at R
 revert r
 refine vM func35 [(0,A),(1,C),(2,xA d)] hN λr=>?_;refine xI ?_;obtain⟨K,rfl,i,E⟩:=xB.o S;refine jX e2 (λj=>?_);obtain⟨I,rfl,p,L⟩:=xH.o T;refine jX e2 λt=>aK rfl λx=>xK 1 rfl (jB λU W=>(jk (λH=>sV U W _ aA (xB.b (H.g 2 rfl).bk i (H.a E)) (xH.b (H.g 1 rfl).bk p (H.a L))) (xC 1 rfl (xT ?_ ?_))))
 ·refine xI (oV e5 (zX e3 (oE 1 rfl ?_)));exact nJ (λH=>(H.nl 1 xF 2).s [0] rfl rfl) (dA 0 e2) (rt rfl) ⟨_,xO,zL,lv⟩
 refine vT (jo rfl (xZ e2 (jb 2 e3 (jB λz2 M=>(gM M (jB λX Y=>(jk (λH=>kH X Y _ aA y xO (kA M)) (xC 1 rfl (xT ?_ ?_)))))))))
 ·refine xI (oV e5 (zX e3 (oE 1 rfl ?_)));exact nJ (λH=>(H.nl 1 xF 2).s [0] rfl rfl) (dA 0 e2) (rt rfl) ⟨_,xO,rH,lv⟩
 refine qR (xZ e2 (jb 2 e3 (jo rfl (jB λZ c4=>(jk (λH=>wD Z c4 _ aA i zL y) λv3 Q _=>jA 3 rfl (aK rfl (λ_=>?_)))))));refine zX (hv:=(λH=>oc rfl (oc (H.l 1 rfl).one on))) e3 (xK 1 rfl (jB λz5 c5=>(jk (λH=>sP z5 c5 _ aA (xB.b (H.g 4 rfl).bk i (H.a E)) (vU.b (H.g 0 rfl).bk Q (H.l 1 rfl))) λa8=>xC 1 rfl (xT ?_ ?_))))
 ·refine xI (oV e5 (js [2,0,1,3,4] rfl (zX e3 (oE 1 rfl ?_))));exact nJ (λH=>(H.nl 1 xF 2).s [0] rfl rfl) (dA 0 e2) (rt rfl) ⟨_,xO,uC,lv⟩
 refine qR (jR0 xF λv4=>xK 1 rfl (xC 1 rfl ?_));refine qZ (λs1=>.v λz=>.st [(3,oK j),(4,oK t),(6,oK x),(10,z)] [rl 1 xF 2 z s1,bx x [xA 0,kW,kW,kW,kW] 62,bx t [xA f.vars,I] 67,bx j [xA e.size,K] 32]) ?_ (λ_ z=>?_)
 ·
  refine zK (js [0,3,4,5] rfl ?_);refine jc (λO P=>.v λF=>.st [(11,xA (O:Int)),(2,xA d),(3,oK j),(4,oK t),(6,oK x),(10,F)] [rl 1 xF 2 F P,bx x [xA 0,kW,kW,kW,kW] 62,bx t [xA f.vars,I] 67,bx j [xA e.size,K] 32]) ⟨_,ls⟩ (λ_ P _ c F=>?_) (λ_ O _ c _=>?_)
  ·have l1:=vD c;refine xR (jo rfl (xZ e2 (jb 2 e3 (xC 1 rfl (kJ l1 (xN ?_))))));exact jf ⟨_,ls⟩
  refine xR (jo rfl (xZ e2 (jb 2 e3 (xC 1 rfl (kO (qP c) (xY ?_))))));have j1:=dT c p;refine xAp (jA 2 rfl (lQ (λH=>Eo.int y) λ_=>jB λz6 c6=>(js [1,0,2,3,4] rfl (jPL c6 λv6=>kZ 1 rfl (jo rfl (xU (vY c p) (jo rfl ?_)))))));refine kD ?_;exact jg ⟨_,ls⟩
 refine cF (jo rfl (jB λz7 c7=>(jk (λH=>xFf z7 c7 _ aA (xB.b (H.g 3 rfl).bk i (H.a E)) (xH.b (H.g 2 rfl).bk p (H.a L)) (H.l 0 rfl)) λa9=>xC 1 rfl (xT ?_ ?_))))
 ·refine xI (oV e5 (js [1,0,2,3] rfl (zX e3 (oE 1 rfl ?_))));exact nJ (λH=>(H.nl 1 xF 2).s [0] rfl rfl) (dA 0 e2) (rt rfl) ⟨_,xO,sS,lv⟩
 refine qR (jo rfl ?_);refine oV (hone:=(λH=>oc rfl (oc (H.l 0 rfl).one on))) e5 (js [1,0,2,3] rfl ?_);refine zX (hv:=(λH=>oc rfl (oc (H.l 1 rfl).one (oc rfl (oc rfl (oc rfl on)))))) e3 (xS 1 rfl ?_);exact nJ (λH=>H.s [1] rfl rfl) (dA 0 e2) (rt rfl) ⟨_,xO,xO,lv⟩
def uH (N:Nat) (d:Int) (c:Op):Option Bool:= oZ (σ:=Bool) (xG (cU d) λe=>if (!e) then  some (.nx true) else  xG (cY c.arity) λf=>if (!f) then  some (.nx true) else  xG (qD N d c.arity) λh=>some (.nx ((c.table.length:Int) != h))) λi=>if i then some false else oZ (σ:=Unit) (oM (λx (j:Int) s=>match s with | _=>xG (ck (d - 1)) λp=>xG (zZ j 0 p) λt=>if (!t) then some (.ret false) else some (.go ())) c.table 0 ()) λ_=>some true
theorem xOn {d j} (r) (A:uH N d j=some r) {e} (h) (hN:HN B h) (i:xL d) (c:Bo B h (Pt 2 vU) e j):CG B h 110 #[xA d,e] (.st (.bool r) λD=>D):=by
 unfold uH at A
 revert r
 refine vM func110 [(0,xA d),(1,e)] hN λr=>?_;refine xI (jo rfl (nE (qZ (λC=>.st [(0,xA d),(1,e),(30,.bool C)] []) ?_ (λ_=>?_))))
 ·
  refine jQ (zA 1 rfl (jB λE F=>(jqk (λH=>pX E F _ aA i) (zA 2 rfl (fD 9 (λ_=>?_) (λ_=>?_))))))
  ·refine zA 21 rfl (nD (eD ?_));exact jf ls
  refine zA 1 rfl (jqN c (cI c vU.f0 λ_ G=>kI G λI=>jB λK L=>(jqk (λH=>sG K L _ aA I) (zA 3 rfl (fD 17 (λ_=>?_) (λ_=>?_))))))
  ·refine zA 13 rfl (nD (eD ?_));exact jf ls
  refine zA 1 rfl (jqN c (cI c vU.f1 λ_ M=>eZ M λ_ O=>jqL O λ_=>zA 2 rfl (jqN c (cI c vU.f0 λ_ P=>kI P λQ=>jB λR S=>(xRo (λH=>zH R S _ aA i Q) (λ_=>?_))))));refine zA 2 rfl (nD (eD ?_));exact jf ls
 refine eD (xT ?_ ?_)
 ·refine xI (oE 1 rfl ?_);exact qT (rt rfl) lv
 refine vT (xC 1 rfl (qZ (λ_=>.st [] []) ?_ (λ_=>?_)))
 ·
  refine zK (jl (λp _=>.st [(5,xA (p:Int)),(0,xA d),(1,e)] []) ls (λ_ _ _ T=>?_) (λp _ _ f U=>?_))
  ·have W:=oU T;refine xR (jA 2 rfl (jN c (aF c vU.f1 λ_ X=>aR X λ_ Y=>jL Y λ_=>xC 1 rfl (kJ W (xN ?_)))));exact jf ls
  refine xR (jA 2 rfl (jN c (aF c vU.f1 λ_ Z=>aR Z λ_ h8=>jL h8 λt=>xC 1 rfl (kO (xX f) (xY ?_)))));have j1:=dS (Ah f) t;refine qE (jo rfl (jN c (aF c vU.f1 λ_ h9=>aR h9 λ_ y=>jo rfl (jI y U λ_ z=>aP z λi4=>jo rfl (jB λz4 x=>(gM x ?_))))));refine jB λz5 c5=>(jk (λH=>kH z5 c5 _ aA i4 xO (kA x)) (xC 1 rfl (xT ?_ ?_)))
  ·refine xI (oY 1 rfl (fZ (zR (fH (lD ?_)))));exact qT (rt rfl) lv
  refine qJ (jo rfl (xU (qG f t) (xC 1 rfl ?_)));exact jg ls
 refine oO (xS 1 rfl ?_);exact qT (rt rfl) lv
def pI (N:Nat) (c:A6) (e:A7) (d:Op) (f:Int):Option Int:= oZ (σ:=Bool) (xG (iS c e) λh=>if (!h) then  some (.nx true) else  xG (uH N c.size d) λi=>some (.nx (!i))) λj=>if j then some 1 else oZ (σ:=Bool) (xG (aZ N c.size d f) λp=>if (!p) then  some (.nx true) else  xG (aN N c d) λt=>some (.nx (t != (-1)))) λx=>if x then some 4 else some 0
theorem xDb {p t x d} (r) (z:pI N p t x d=some r) {f i h} (e) (hN:HN B e) (c:Bo B e (Pt 2 xB) f p) (A:Bo B e (Pt 2 xH) i t) (j:Bo B e (Pt 2 vU) h x) (y:xL d):CG B e 63 #[f,i,h,xA d] (.fa (xL r) <| .st (xA r) λD=>D):=by
 unfold pI at z
 revert r
 refine vM func63 [(0,f),(1,i),(2,h),(3,xA d)] hN λr=>?_;refine xI (jo rfl (nE (qZ (λC=>.st [(0,f),(2,h),(3,xA d),(21,.bool C)] []) ?_ (λ_=>?_))))
 ·
  refine lP (jA 2 rfl (jB λE F=>(jk (λH=>sV E F _ aA (H.a c) (H.a A)) (jA 2 rfl (fD 13 (λ_=>?_) (λ_=>?_))))))
  ·refine xC 8 rfl ?_;exact jf ls
  refine jo rfl (jN c (aF c xB.f0 λ_ G=>aP G λI=>jo rfl (jB λK L=>(jk (λH=>xOn K L _ aA I (H.a j)) (xC 2 rfl ?_)))));exact jf ls
 refine eD (xT ?_ ?_)
 ·refine xI (oE 1 rfl ?_);exact qT (rt rfl) ⟨zL,lv⟩
 refine xLb (qZ (λM=>.st [(35,.bool M)] []) ?_ (λ_=>?_))
 ·
  refine lP (jo rfl (jN c (aF c xB.f0 λ_ O=>aP O λP=>jA 2 rfl (jB λQ R=>(jk (λH=>xBi Q R _ aA P (H.a j) y) (jA 2 rfl (fD 30 (λ_=>?_) (λ_=>?_))))))))
  ·refine xC 5 rfl ?_;exact jf ls
  refine jA 2 rfl (jB λS T=>(jk (λH=>sP S T _ aA (H.a c) (H.a j)) λU=>xC 2 rfl ?_));exact jf ls
 refine eD (xT ?_ ?_)
 ·refine xI (oE 1 rfl ?_);exact qT (rt rfl) ⟨uC,lv⟩
 refine qR (xS 1 rfl ?_);exact qT (rt rfl) ⟨xO,lv⟩
def nL (c:Int):Option (List Int):= oZ (σ:=List Int) (qM (λd e=>xG (ap e ([(d:Int)])) λf=>some (.go f)) c.toNat 0 []) λh=>some h
theorem xHz {d} (r) (x:nL d=some r) (j) (hN:HN B j) (h:xL d):CG B j 111 #[xA d] (.v λi=>.st (i) λD=>rl 1 xF 2 i r::D):=by
 unfold nL at x
 revert r
 refine vM func111 [(0,xA d)] hN λr=>?_;refine xI (xM 1 rfl (jR0 xF λC=>xK 1 rfl (xC 1 rfl (qZ (λy=>.v λe=>.st [(3,e)] [rl 1 xF 2 e y]) ?_ (λ_ e=>?_)))))
 ·
  refine zK ?_;refine jc (λp t=>.v λf=>.st [(4,xA (p:Int)),(0,xA d),(3,f)] [rl 1 xF 2 f t]) ⟨_,ls⟩ (λ_ t _ c f=>?_) (λ_ p _ c _=>?_)
  ·have z:=vD c;refine xR (xC 3 rfl (kJ z (xN ?_)));exact jf ⟨_,ls⟩
  refine xR (xC 3 rfl (kO (qP c) (xY (xAp (jA 2 rfl (lQ (λH=>Eo.int (dT c h)) λ_=>jB λE A=>(js [1,0] rfl (jPL A (λF=>?_)))))))));refine kZ 1 rfl (jo rfl (xU (vY c h) (xC 1 rfl ?_)));exact jg ⟨_,ls⟩
 refine oO (xS 2 rfl ?_);exact j1 (rt rfl) ⟨_,lv⟩
def mN (c:A6) (d:A7):Option (List (List Int)):= oZ (σ:=List (List Int)) (qM (λj e=>xG (nL c.size) λf=>xG (ap e ([f])) λh=>some (.go h)) d.vars.toNat 0 []) λi=>some i
theorem xAw {t x} (r) (E:mN t x=some r) {d e} (f) (hN:HN B f) (y:Bo B f (Pt 2 xB) d t) (h:Bo B f (Pt 2 xH) e x):CG B f 64 #[d,e] (.v λp=>.st (p) λD=>rl 1 (kP 1 xF) 58 p r::D):=by
 unfold mN at E
 revert r
 refine vM func64 [(0,d),(1,e)] hN λr=>?_;refine xI (xM 1 rfl (jR0 (kP 1 xF) λQ=>xK 1 rfl (xC 1 rfl (qZ (λF=>.v λi=>.st [(5,i)] [rl 1 (kP 1 xF) 58 i F]) ?_ (λ_ i=>?_)))))
 ·
  refine zK ?_;refine jc (λz A=>.v λj=>.st [(6,xA (z:Int)),(0,d),(1,e),(5,j)] [rl 1 (kP 1 xF) 58 j A]) ⟨_,ls⟩ (λ_ A _ c j=>?_) (λ_ z _ c _=>?_)
  ·have G:=vD c;refine xR (jA 2 rfl (jN h (aF h xH.f0 λ_ I=>aP I λ_=>xC 1 rfl (kJ G (xN ?_)))));exact jf ⟨_,ls⟩
  refine xR (jA 2 rfl (jN h (aF h xH.f0 λ_ K=>aP K λC=>xC 1 rfl (kO (qP c) (xY ?_)))));have j2:=dT c C;refine xAp (jA 2 rfl (jN y (aF y xB.f0 λ_ L=>aP L λM=>jB λN O=>(jk (λH=>xHz N O _ aA M) λ_=>jh (λH=>H.os) (uL (λH=>El.sl) λ_=>jB λR P=>(js [1,0] rfl ?_))))));refine jPL P λS=>kZ 1 rfl (jo rfl (xU (vY c C) (xC 1 rfl ?_)));exact jg ⟨_,ls⟩
 refine oO (xS 2 rfl ?_);exact j1 (rt rfl) ⟨_,lv⟩
def gJ (c:Con) (d:List Int):Option Bool:= oZ (σ:=Unit) (oM (λe (h:Int) s=>match s with | _=>oZ (σ:=Unit) (qM (λf s=>match s with | _=>oZ (σ:=Bool) (xG (ix c.scope (e:Int)) λi=>xG (ix c.scope (f:Int)) λj=>if (i==j) then  xG (ix d (f:Int)) λp=>some (.nx (h != p)) else  some (.nx false)) λt=>if t then some (.ret (.ret false)) else some (.go ())) (e:Int).toNat 0 ()) λ_=>some (.go ())) d 0 ()) λ_=>some true
theorem xAk {x y} (r) (A:gJ x y=some r) {c d} (h) (hN:HN B h) (i:Bo B h (Pt 2 vS) c x) (j:Bo B h (Sl 1 xF) d y):CG B h 175 #[c,d] (.st (.bool r) λD=>D):=by
 unfold gJ at A
 revert r
 refine vM func175 [(0,c),(1,d)] hN λr=>?_;refine xI (xK 1 rfl (xC 1 rfl (qZ (λ_=>.st [] []) ?_ (λ_=>?_))))
 ·
  refine zK (jl (λf _=>.st [(5,xA (f:Int)),(0,c),(1,d)] []) ls (λ_ _ _ C=>?_) (λf U _ p E=>?_))
  ·have F:=oU C;refine xR (jA 2 rfl (jL j λ_=>xC 1 rfl (kJ F (xN ?_))));exact jf ls
  refine xR (jA 2 rfl (jL j λz=>xC 1 rfl (kO (xX p) (xY ?_))));have j1:=dS (Ah p) z;refine qE (xC 1 rfl (qZ (λ_=>.st [(0,c),(1,d),(5,xA (f:Int))] []) ?_ (λ_=>?_)))
  ·
   refine zK (jc (λt _=>.st [(6,xA (t:Int)),(0,c),(1,d),(5,xA (f:Int))] []) ls (λ_ _ _ e=>?_) (λ_ t _ e=>?_))
   ·have G:=vD e;refine xR (xC 3 rfl (kJ G (xN ?_)));exact jf ls
   refine xR (xC 3 rfl (kO (qP e) (xY ?_)));have j2:=dT e j1;refine uV (qZ (λH=>.st [(0,c),(1,d),(5,xA (f:Int)),(6,xA (t:Int)),(43,.bool H)] []) ?_ (λ_=>?_))
   ·
    refine jQ (zA 1 rfl (jqN i (cI i vS.f1 λ_ I=>eZ I λ_ K=>zA 1 rfl (jB λW L=>(lM K L λ_ M=>kI M λ_=>zA 1 rfl (jqN i ?_))))));refine cI i vS.f1 λ_ N=>eZ N λ_ O=>zA 1 rfl (jB λX P=>(lM O P λ_ Q=>kI Q λ_=>zA 2 rfl (fD 33 (λ_=>?_) (λ_=>?_))))
    ·refine zA 2 rfl (lM j E λ_ R=>kI R λ_=>zA 2 rfl (jB λY S=>(lM j S λ_ T=>kI T λ_=>zA 2 rfl (nD (eD ?_)))));exact jf ls
    refine zA 10 rfl (nD (eD ?_));exact jf ls
   refine eD (xT ?_ ?_)
   ·refine xI (oY 1 rfl (fZ (zR (fH (xFi (fZ (zR (fH (lD ?_)))))))));exact qT (rt rfl) lv
   refine qJ (jo rfl (xU (vY e j1) (xC 1 rfl ?_)));exact jg ls
  refine aH (jo rfl (xU (qG p z) (xC 1 rfl ?_)));exact jg ls
 refine oO (xS 1 rfl ?_);exact qT (rt rfl) lv
def cC (N:Nat) (h:A6) (e:Con) (i:List (List Int)) (j p:Int):Option Bool:= xG (ix h.rels e.rel) λt=>oZ (σ:=Unit) (oM (λH (d:(List Int)) s=>match s with | _=>oZ (σ:=Bool) (xG (ix d j) λx=>if (x==p) then  xG (gJ e d) λy=>some (.nx y) else  some (.nx false)) λz=>oZ (σ:=Bool×Int) (mL (λs=>match s with | (f,c)=>oZ (σ:=Bool) (if (decide (c<(d.length:Int))) then  some (.nx f) else  some (.nx false)) λA=>if A then xG (ix e.scope c) λB=>xG (ix i B) λC=>xG (ix d c) λD=>xG (dG C D) λE=>xG (ck (c+1)) λF=>some (.go (E,F)) else some (.brk (f,c))) N (z,0)) λ(G,I)=>if G then some (.ret true) else some (.go ())) t.tuples 0 ()) λ_=>some false
theorem xEp {F G I c d} (r) (hR:cC N F G I c d=some r) {A e f} (j) (hN:HN B j) (K:Bo B j (Pt 2 xB) A F) (p:Bo B j (Pt 2 vS) e G) (A2:Bo B j (Sl 1 (kP 1 xF)) f I) (ar:xL c) (au:xL d):CG B j 171 #[A,e,f,xA c,xA d] (.st (.bool r) λD=>D):=by
 unfold cC at hR
 revert r
 refine vM func171 [(0,A),(1,e),(2,f),(3,xA c),(4,xA d)] hN λr=>?_;refine xI (xW 1 rfl (jQ (zA 1 rfl (jqN K (cI K xB.f1 λ_ h1=>eZ h1 λ_ h2=>zA 1 rfl (jqN p (cI p vS.f0 (λ_ R=>?_))))))));refine kI R λ_=>jB λz1 c1=>(lM h2 c1 λt h=>zA 1 rfl (nD (cF (xC 1 rfl (qZ (λ_=>.st [] []) ?_ (λ_=>?_))))))
 ·
  refine zK (jl (λi _=>.st [(12,xA (i:Int)),(1,e),(2,f),(3,xA c),(4,xA d),(11,t)] []) ls (λ_ _ _ q1=>?_) (λi x5 _ z y1=>?_))
  ·have l1:=oU q1;refine xR (jA 2 rfl (jN h (aF h oQ.f1 λ_ h4=>aR h4 λ_ h5=>jL h5 λ_=>xC 1 rfl (kJ l1 (xN ?_)))));exact jf ls
  refine xR (jA 2 rfl (jN h (aF h oQ.f1 λ_ h6=>aR h6 λ_ h7=>jL h7 λL=>xC 1 rfl (kO (xX z) (xY ?_)))));have j1:=dS (Ah z) L;refine qE (jo rfl (jN h (aF h oQ.f1 λ_ h8=>aR h8 λ_ h9=>jo rfl (jI h9 y1 λ_ S=>aR S λC x=>xW 1 rfl (qZ (λM=>.st [(1,e),(2,f),(3,xA c),(4,xA d),(11,t),(12,xA (i:Int)),(13,C),(14,.bool M)] []) ?_ (λM=>?_))))))
  ·
   refine lP (jA 2 rfl (jB λz2 c2=>(jI x c2 λ_ T=>aP T λ_=>jA 3 rfl (fD 47 (λ_=>?_) (λ_=>?_)))))
   ·refine jA 2 rfl (jB λz3 c3=>(jk (λH=>xAk z3 c3 _ aA (H.a p) (H.a x)) (xC 2 rfl ?_)));exact jf ls
   refine xC 5 rfl ?_;exact jf ls
  refine cF (xC 1 rfl (qZ (λ(O,P)=>.fa (xL P) <| .st [(1,e),(2,f),(3,xA c),(4,xA d),(11,t),(12,xA (i:Int)),(14,.bool O)] []) ?_ (λ(O,P) _=>?_)))
  ·
   refine zK ?_;refine jw (λ(E,y)=>.fa (xL y) <| .st [(1,e),(2,f),(3,xA c),(4,xA d),(11,t),(12,xA (i:Int)),(13,C),(14,.bool E),(15,xA y)] []) ⟨xO,ls⟩ (λ_ (E,y) i2=>?_);refine xRj (qZ (λs6=>.st [(1,e),(2,f),(3,xA c),(4,xA d),(11,t),(12,xA (i:Int)),(13,C),(14,.bool E),(15,xA y),(58,.bool s6)] []) ?_ (λ_=>?_))
   ·
    refine lP (jA 2 rfl (jL x λ_=>jA 2 rfl (fD 56 (λ_=>?_) (λ_=>?_))))
    ·refine xC 2 rfl ?_;exact jf ls
    refine xC 2 rfl ?_;exact jf ls
   refine eD (xT ?_ ?_)
   ·refine xYg (jQ (zA 2 rfl (jqN p (cI p vS.f1 λ_ U=>eZ U λ_ W=>zA 1 rfl (jB λz4 c4=>(lM W c4 λ_ X=>kI X λ_=>jB λz5 c5=>?_))))));refine lM A2 c5 λ_ Y=>eZ Y λ_ Z=>zA 2 rfl (jB λz6 c6=>(lM x c6 λ_ a0=>kI a0 λi3=>jB λz7 c7=>(jqk (λH=>rT z7 c7 _ aA (H.a Z) i3) (zA 1 rfl (nD (aH ?_))))));refine jo rfl (jB λz8 Q=>(bN Q (xC 1 rfl ?_)));exact jg ⟨(kA Q),ls⟩
   refine nS (jbk (wJ ?_));exact jf ⟨i2,ls⟩
  refine oO (xC 1 rfl (xT ?_ ?_))
  ·refine xI (oY 1 rfl (fZ (zR (fH (lD ?_)))));exact qT (rt rfl) lv
  refine qJ (jo rfl (xU (qG z L) (xC 1 rfl ?_)));exact jg ls
 refine oO (xS 1 rfl ?_);exact qT (rt rfl) lv
def cE (e:List Int) (f:Int):Option (List Int):= oZ (σ:=List Int) (oM (λj (c:Int) d=>if (c != f) then xG (ap d ([c])) λh=>some (.go h) else some (.go d)) e 0 []) λi=>some i
theorem xFh {x c} (r) (E:cE x c=some r) {d} (i) (hN:HN B i) (e:Bo B i (Sl 1 xF) d x) (O:xL c):CG B i 172 #[d,xA c] (.v λt=>.st (t) λD=>rl 1 xF 2 t r::D):=by
 unfold cE at E
 revert r
 refine vM func172 [(0,d),(1,xA c)] hN λr=>?_;refine xI (xM 1 rfl (jR0 xF λP=>xK 1 rfl (xC 1 rfl (qZ (λF=>.v λj=>.st [(5,j)] [rl 1 xF 2 j F]) ?_ (λ_ j=>?_)))))
 ·
  refine zK ?_;refine jl (λy p=>.v λf=>.st [(6,xA (y:Int)),(0,d),(1,xA c),(5,f)] [rl 1 xF 2 f p]) ⟨_,ls⟩ (λ_ p _ G f=>?_) (λy Q p h z f=>?_)
  ·have I:=oU G;refine xR (jA 2 rfl (jL e λ_=>xC 1 rfl (kJ I (xN ?_))));exact jf ⟨_,ls⟩
  refine xR (jA 2 rfl (jL e λA=>xC 1 rfl (kO (xX h) (xY ?_))));have j2:=dS (Ah h) A;have C:=qG h A;refine qE (jA 2 rfl (jI e z λ_ K=>aP K λ_=>xC 2 rfl (xT ?_ ?_)))
  ·refine lP (jA 3 rfl (jI e z λ_ L=>aP L λM=>lQ (λH=>Eo.int M) λ_=>jB λR N=>(js [1,0] rfl (jPL N λS=>kZ 1 rfl (jo rfl ?_)))));refine xU C (xC 1 rfl ?_);exact jg ⟨_,ls⟩
  refine qJ (jo rfl (xU C (xC 1 rfl ?_)));exact jg ⟨_,ls⟩
 refine oO (xS 2 rfl ?_);exact j1 (rt rfl) ⟨_,lv⟩
def gB (N:Nat) (O:A6) (P:A7) (e:List (List Int)) (t:Bool):Option ((List B3)×(List (List Int))):= oZ (σ:=Int) (mL (λf=>oZ (σ:=Bool) (if (decide (f<(e.length:Int))) then  some (.nx t) else  some (.nx false)) λC=>if C then xG (ix e f) λQ=>if ((Q.length:Int)==0) then some (.ret ([],e)) else xG (ck (f+1)) λR=>some (.go R) else some (.brk f)) N 0) λs2=>oZ (σ:=(List B3)×Int×(List (List Int))) (mL (λs=>match s with | (h,x,y)=>if (x != (h.length:Int)) then oZ (σ:=(List B3)×(List (List Int))) (oM (λS (z:Con) s=>match s with | (T,U)=>oZ (σ:=(List B3)×(List (List Int))) (oM (λW (c:Int) s=>match s with | (X,A)=>xG (ix A c) λY=>xG (zO Y) λZ=>oZ (σ:=(List B3)×(List (List Int))) (oM (λk3 (i:Int) s=>match s with | (p,d)=>xG (cC N O z d (W:Int) i) λz5=>if (!z5) then xG (ix d c) λz6=>xG (cE z6 i) λj=>xG (ap p ([(B3.mk c i (S:Int))])) λB=>oZ (σ:=Bool) (if t then  xG (ix (d.set (c).toNat j) c) λz9=>some (.nx ((z9.length:Int)==0)) else  some (.nx false)) λD=>if D then some (.ret (.ret (.ret (.ret (B,(d.set (c).toNat j)))))) else some (.go (B,(d.set (c).toNat j))) else some (.go (p,d))) Z 0 (X,A)) λ(E,F)=>some (.go (E,F))) z.scope 0 (T,U)) λ(G,H)=>some (.go (G,H))) P.cons 0 (h,y)) λ(I,K)=>some (.go (I,(h.length:Int),K)) else some (.brk (h,x,y))) N ([],(-1),e)) λ(L,a3,M)=>some (L,M)
theorem xCo {x0:A6} {x1:A7} {z:List (List Int)} {d:Bool} (r:(List B3)×(List (List Int))) (hR:gB N x0 x1 z d=some r) {f:Vl} {h:Vl} {c:Vl} {X0:List Nat} (j:Wd) (hN:HN B j) (S0:Sep X0 B j j [rw N0 1 (kP 1 xF) 58 c z]) (A0:Bo B j (Pt 2 xB) f x0) (x:Bo B j (Pt 2 xH) h x1):Calls prog 112 #[f,h,c,.bool d] j (Gt B j X0 (.v λa8=>.st (a8) λD=>rl 3 oD 225 a8 r.1::rw N0 1 (kP 1 xF) 58 c r.2::D)):=by
 unfold gB at hR
 revert r
 refine jin func112 [(0,f),(1,h),(2,c),(3,.bool d)] S0 λr=>?_;refine xI (xM 1 rfl (jR0 oD λy=>xK 1 rfl (xC 1 rfl (qZ (λs1=>.fa (xL s1) <| .st [(0,f),(1,h),(2,c),(3,.bool d),(9,y)] [rl 3 oD 225 y ([]),rw N0 1 (kP 1 xF) 58 c z]) ?_ (λ_ _=>?_)))))
 ·
  refine zK ?_;refine jw (λF=>.fa (xL F) <| .st [(0,f),(1,h),(2,c),(3,.bool d),(9,y),(10,xA F)] [rl 3 oD 225 y ([]),rw N0 1 (kP 1 xF) 58 c z]) ⟨xO,ls⟩ λ_ F i1=>xRj (qZ (λb0=>.st [(0,f),(1,h),(2,c),(3,.bool d),(9,y),(10,xA F),(25,.bool b0)] [rl 3 oD 225 y ([]),rw N0 1 (kP 1 xF) 58 c z]) ?_ (λ_=>?_))
  ·
   refine lP (jA 2 rfl (jLc (λH=>H.r 1 rfl) λ_=>jA 2 rfl (fD 23 (λ_=>?_) (λ_=>?_))))
   ·refine xC 2 rfl ?_;exact jf ls
   refine xC 2 rfl ?_;exact jf ls
  refine eD (xT ?_ ?_)
  ·
   refine nK (jA 2 rfl (jB λz1 c1=>(js [1,0] rfl (cZ λ_ _ _ _ g1 _ a9 _=>(jI g1.rd c1 λ_ h1=>aR h1 λ_ h2=>jL h2 λ_=>xC 1 rfl (xT ?_ ?_))))))
   ·refine xI (oY 2 rfl (fZ (zR (fH (lD (aI a9 (js [1,0] rfl ?_)))))));exact j1 (rt rfl) ⟨_,lv⟩
   refine qJ (jo rfl (jB λz2 c2=>(bN c2 (xC 1 rfl (aI a9 (js [1,0] rfl ?_))))));exact jg ⟨(kA c2),ls⟩
  refine nS (jbk (wJ ?_));exact jf ⟨i1,ls⟩
 refine cF (xC 1 rfl (qZ (λ(s3,s4,s5)=>.v λZ=>.fa (xL s4) <| .st [(2,c),(9,Z)] [rl 3 oD 225 Z s3,rw N0 1 (kP 1 xF) 58 c s5]) ?_ (λ(s3,s4,s5) Z _=>?_)))
 ·
  refine zK ?_;refine jw (λ(i,s7,s8)=>.v λv5=>.fa (xL s7) <| .st [(0,f),(1,h),(2,c),(3,.bool d),(9,v5),(11,xA s7)] [rl 3 oD 225 v5 i,rw N0 1 (kP 1 xF) 58 c s8]) ⟨_,bC,ls⟩ (λ_ (i,s7,s8) v5 i2=>?_);refine xR (jA 2 rfl (jLc (λH=>H.l 0 rfl) λ_=>xC 1 rfl (xT ?_ ?_)))
  ·
   refine xCj (jo rfl (jLc (λH=>H.l 0 rfl) λi3=>xM 1 rfl (xC 1 rfl (qZ (λ(s9,aa)=>.v λv6=>.st [(0,f),(1,h),(2,c),(3,.bool d),(9,v6),(11,xA (i.length:Int))] [rl 3 oD 225 v6 s9,rw N0 1 (kP 1 xF) 58 c aa]) ?_ (λ(s9,aa) v6=>?_)))))
   ·
    refine zK ?_;refine jl (λp (L,M)=>.v λG=>.st [(12,xA (p:Int)),(0,f),(1,h),(2,c),(3,.bool d),(9,G),(11,xA (i.length:Int))] [rl 3 oD 225 G L,rw N0 1 (kP 1 xF) 58 c M]) ⟨_,ls⟩ (λ_ (L,M) _ q1 G=>?_) (λp x4 (L,M) O y1 G=>?_)
    ·have l1:=oU q1;refine xR (jA 2 rfl (jN x (aF x xH.f1 λ_ h3=>aR h3 λ_ h4=>jL h4 λ_=>xC 1 rfl (kJ l1 (xN ?_)))));exact jf ⟨_,ls⟩
    refine xR (jA 2 rfl (jN x (aF x xH.f1 λ_ h5=>aR h5 λ_ h6=>jL h6 λi4=>xC 1 rfl (kO (xX O) (xY (qE ?_))))));refine jo rfl (jN x (aF x xH.f1 λ_ h7=>aR h7 λ_ h8=>jo rfl (jI h8 y1 λI t=>xM 1 rfl (xC 1 rfl (qZ (λ(ab,ac)=>.v λv8=>.st [(0,f),(1,h),(2,c),(3,.bool d),(9,v8),(11,xA (i.length:Int)),(12,xA (p:Int))] [rl 3 oD 225 v8 ab,rw N0 1 (kP 1 xF) 58 c ac]) ?_ (λ(ab,ac) v8=>?_))))))
    ·
     refine zK ?_;refine jl (λA (P,Q)=>.v λK=>.st [(14,xA (A:Int)),(0,f),(1,h),(2,c),(3,.bool d),(9,K),(11,xA (i.length:Int)),(12,xA (p:Int)),(13,I)] [rl 3 oD 225 K P,rw N0 1 (kP 1 xF) 58 c Q]) ⟨_,ls⟩ (λ_ (P,Q) _ q2 K=>?_) (λA x5 (P,Q) R y2 K=>?_)
     ·have l2:=oU q2;refine xR (jA 2 rfl (jN t (aF t vS.f1 λ_ b1=>aR b1 λ_ b2=>jL b2 λ_=>xC 1 rfl (kJ l2 (xN ?_)))));exact jf ⟨_,ls⟩
     refine xR (jA 2 rfl (jN t (aF t vS.f1 λ_ b3=>aR b3 λ_ b4=>jL b4 λi5=>xC 1 rfl (kO (xX R) (xY (qE ?_))))));refine jo rfl (jN t (aF t vS.f1 λ_ b5=>aR b5 λ_ b6=>jo rfl (jI b6 y2 λ_ b7=>aP b7 λi6=>xM 1 rfl (jA 2 rfl (jB λz3 c3=>?_)))));refine js [1,0] rfl (cZ λ_ _ _ _ g2 _ b8 _=>(jI g2.rd c3 λ_ b9=>aR b9 λ_ ba=>jB λz4 c4=>(jk (λH=>eA z4 c4 _ aA (H.a ba)) λS=>xM 1 rfl (xC 1 rfl (aI b8 ?_)))));refine qZ (λ(ad,ae)=>.v λT=>.st [(0,f),(1,h),(2,c),(3,.bool d),(9,T),(11,xA (i.length:Int)),(12,xA (p:Int)),(13,I),(14,xA (A:Int))] [rw N0 1 (kP 1 xF) 58 c ae,rl 3 oD 225 T ad]) ?_ (λ(ad,ae) T=>?_)
     ·
      refine zK ?_;refine jl (λk3 (U,C)=>.v λE=>.st [(17,xA (k3:Int)),(0,f),(1,h),(2,c),(3,.bool d),(9,E),(11,xA (i.length:Int)),(12,xA (p:Int)),(13,I),(14,xA (A:Int)),(15,xA x5),(16,S)] [rw N0 1 (kP 1 xF) 58 c C,rl 1 xF 2 S z4,rl 3 oD 225 E U]) ⟨_,ls⟩ (λ_ (U,C) _ q3 E=>?_) (λk3 x6 (U,C) W y3 E=>?_)
      ·have l3:=oU q3;refine xR (jA 2 rfl (jLc (λH=>H.l 1 rfl) λ_=>xC 1 rfl (kJ l3 (xN (js [0,2] rfl ?_)))));exact jf ⟨_,ls⟩
      refine xR (jA 2 rfl (jLc (λH=>H.l 1 rfl) λi7=>xC 1 rfl (kO (xX W) (xY ?_))));have j2:=dS (Ah W) i7;have m1:=qG W i7;refine qE (jA 6 rfl (js [1,0,2] rfl (cZ λw1 X1 N1 _ g3 e1 X _=>?_)));have Y:=g3.ld;refine jI Y y3 λ_ bb=>aP bb λi8=>jB λz5 c5=>(jk (λH=>xEp z5 c5 _ aA (H.a (e1 A0)) (H.a (e1 t)) (H.r 0 rfl) (dS (Ah R) i5) i8) (xC 1 rfl (xT ?_ ?_)))
      ·
       refine a_s (jB λz6 c6=>(jB λz7 c7=>(cZ λ_ _ _ bc g4 _ af _=>(jD (zF [0,1,2,3] rfl (pQ 4 rfl g4.rd c6 λ_ bd=>rK 5 rfl bd λ_ be=>zF [6,7] rfl (pQ 8 rfl Y y3 λ_ bf=>aW (s:=λH w l=>(bc.trans (Sm.mono (H.v w l) af.2.2))) 9 rfl bf (λi9=>?_))))))));refine jE 10 rfl (jk (λH=>xFh z7 c7 _ aA (H.a be) i9) λ_=>qK (jF9 11 rfl (aI af (jRi 0 c6 λ_ bg=>kD (jF9 12 rfl (jSc (hone:=(λH=>(H.l 1 rfl).one)) bg (dL c6) n0 (λH=>λe q=>(Eo.sl q.ld)) rfl (kD (iT ?_))))))));refine oO (jA 4 rfl (jI Y y3 λ_ bh=>aP bh λbi=>jo rfl (oV e5 ?_)));refine lQ (λH=>Eo.agg (oD.m i6 bi (dS (Ah O) i4))) λ_=>jB λz8 c8=>(js [2,0,1] rfl (jPL c8 λag=>xW 1 rfl (qZ (λbj=>.st [(0,f),(1,h),(2,c),(3,.bool d),(9,ag),(11,xA (i.length:Int)),(12,xA (p:Int)),(13,I),(14,xA (A:Int)),(15,xA x5),(16,S),(17,xA (k3:Int)),(123,.bool bj)] [rl 3 oD 225 ag z8,rw N0 1 (kP 1 xF) 58 c (C.set (x5).toNat z7)]) ?_ (λ_=>?_))))
       ·
        refine lP (jA 2 rfl (fD 116 (λ_=>?_) (λ_=>?_)))
        ·refine jA 2 rfl (jB λz9 c9=>(js [1,0] rfl (cZ λ_ _ _ _ g5 _ bm _=>(jI g5.rd c9 λ_ bn=>aR bn λ_ bp=>jL bp λ_=>xC 2 rfl (aI bm (js [1,0] rfl ?_))))));exact jf ls
        refine xC 7 rfl ?_;exact jf ls
       refine eD (xT ?_ ?_)
       ·refine xI (oY 2 rfl (fZ (zR (fH (xFi (fZ (zR (fH (xFi ?_)))))))));refine fZ (zR (fH (zR (fZ (zR (fH (lD (aI X (js [1,2] rfl ?_)))))))));exact j1 (rt rfl) ⟨_,lv⟩
       refine qJ (jo rfl (xU m1 (xC 1 rfl (aI X (js [2,0,1] rfl ?_)))));exact jg ⟨_,ls⟩
      refine qJ (jo rfl (xU m1 (xC 1 rfl (aI X (js [1,0,2] rfl ?_)))));exact jg ⟨_,ls⟩
     refine aH (jo rfl (xU (qG R i5) (xC 1 rfl (js [1,0] rfl ?_))));exact jg ⟨_,ls⟩
    refine aH (jo rfl (xU (qG O i4) (xC 1 rfl ?_)));exact jg ⟨_,ls⟩
   refine oAj ?_;exact jg ⟨_,i3,ls⟩
  refine nS (jbk (wJ ?_));exact jf ⟨_,i2,ls⟩
 refine oO (xS 2 rfl ?_);exact j1 (rt rfl) ⟨_,lv⟩
def nB (N:Nat) (d:A6) (e:A7) (f:List (List Int)):Option ((List B3)×(List (List Int))):= xG (gB N d e f false) λc=>some (c.1,c.2)
theorem xBr {i:A6} {j:A7} {p:List (List Int)} (r:(List B3)×(List (List Int))) (x:nB N i j p=some r) {e:Vl} {f:Vl} {d:Vl} {t:List Nat} (c:Wd) (hN:HN B c) (y:Sep t B c c [rw N0 1 (kP 1 xF) 58 d p]) (z:Bo B c (Pt 2 xB) e i) (A:Bo B c (Pt 2 xH) f j):Calls prog 65 #[e,f,d] c (Gt B c t (.v λh=>.st (h) λD=>rl 3 oD 225 h r.1::rw N0 1 (kP 1 xF) 58 d r.2::D)):=by
 unfold nB at x
 revert r
 refine jin func65 [(0,e),(1,f),(2,d)] y λr=>?_;refine xI (xM 1 rfl (jA 3 rfl (jB λC E=>(jko 1 (λF H=>xCo C E _ H.hN F (H.u z) (H.u A)) λG=>xS 1 rfl ?_))));exact j1 (rt rfl) ⟨_,lv⟩
def mS (c:List (List Int)):Option Bool:= oZ (σ:=Unit) (oM (λe (d:(List Int)) s=>match s with | _=>if ((d.length:Int)==0) then some (.ret true) else some (.go ())) c 0 ()) λ_=>some false
theorem xBp {h} (r) (p:mS h=some r) {c} (e) (hN:HN B e) (f:Bo B e (Sl 1 (kP 1 xF)) c h):CG B e 66 #[c] (.st (.bool r) λD=>D):=by
 unfold mS at p
 revert r
 refine vM func66 [(0,c)] hN λr=>?_;refine xI (xK 1 rfl (xC 1 rfl (qZ (λ_=>.st [] []) ?_ (λ_=>?_))))
 ·
  refine zK (jl (λi _=>.st [(3,xA (i:Int)),(0,c)] []) ls (λ_ _ _ t=>?_) (λi _ _ d x=>?_))
  ·have y:=oU t;refine xR (jA 2 rfl (jL f λ_=>xC 1 rfl (kJ y (xN ?_))));exact jf ls
  refine xR (jA 2 rfl (jL f λj=>xC 1 rfl (kO (xX d) (xY ?_))));have j1:=dS (Ah d) j;refine qE (jA 2 rfl (jI f x λ_ z=>aR z λ_ A=>jL A λ_=>xC 1 rfl (xT ?_ ?_)))
  ·refine xI (oY 1 rfl (fZ (zR (fH (lD ?_)))));exact qT (rt rfl) lv
  refine qJ (jo rfl (xU (qG d j) (xC 1 rfl ?_)));exact jg ls
 refine oO (xS 1 rfl ?_);exact qT (rt rfl) lv
def iN (d:Int) (e:Op) (c:List Int):Option Int:= xG (ix c 0) λf=>oZ (σ:=Int) (qM (λh i=>xG (ix c (1+(h:Int))) λj=>xG (qV d e ([i,j])) λp=>some (.go p)) ((c.length:Int) - 1).toNat 0 f) λt=>some t
theorem xJr {d t x} (r) (F:iN d t x=some r) {f h} (i) (hN:HN B i) (C:xL d) (G:Bo B i (Pt 2 vU) f t) (j:Bo B i (Sl 1 xF) h x):CG B i 67 #[xA d,f,h] (.fa (xL r) <| .st (xA r) λD=>D):=by
 unfold iN at F
 revert r
 refine vM func67 [(0,xA d),(1,f),(2,h)] hN λr=>?_;refine xI (xM 1 rfl (jo rfl (jB λW I=>(jI j I λ_ K=>aP K λL=>xK 1 rfl (xC 1 rfl ?_)))));refine qZ (λy=>.fa (xL y) <| .st [(7,xA y)] []) ?_ (λ_ M=>?_)
 ·
  refine zK ?_;refine jc (λz e=>.fa (xL e) <| .st [(8,xA (1+(z:Int))),(0,xA d),(1,f),(2,h),(7,xA e)] []) ⟨L,ls⟩ (λ_ e _ c p=>?_) (λ_ z e c p=>?_)
  ·have N:=yG c;refine xR (jA 2 rfl (jL j λ_=>xC 1 rfl (kJ N (xN ?_))));exact jf ⟨p,ls⟩
  refine xR (jA 2 rfl (jL j λA=>xC 1 rfl (kO (tN c) (xY ?_))));have j1:=xVp c zL A;have O:=xHc c zL A;refine xAp (jA 5 rfl (jB λP Q=>(jI j Q λ_ R=>aP R (λS=>?_))));refine jRI [e,P] (by simp only[Ai,Ap,Au,implies_true,and_true];exact⟨p,S⟩) λ_=>jB λT U=>(jk (λH=>kY T U _ aA C (H.a G) (H.l 0 rfl)) λE=>kZ 1 rfl (jo rfl (xDk O (xC 1 rfl (js [] rfl ?_)))));exact jg ⟨E,ls⟩
 refine oO (xS 2 rfl ?_);exact qT (rt rfl) ⟨M,lv⟩
end Go.Proofs.YtnjlbbfcngjhmaaGreat
