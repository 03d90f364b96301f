import Derived.Test.YtnjlbbfcngjhmaaGreatP1
namespace Go.Proofs.YtnjlbbfcngjhmaaGreat
set_option linter.unusedVariables false
set_option linter.unusedSimpArgs false
open Go.Proofs.Tryz
set_option maxHeartbeats 1000000
set_option maxRecDepth 100000
open Go.RowKit
variable {B:Nat->Prop} {N:Nat}
def gF (N:Nat) (c:A6) (d:Int):Option ((A6×Int×(List B7)×(List (List B4))×(List Int)×(List Int)×Int×Bool)×Int):= oZ (σ:=Int) (oM (λO (B:Rel) C=>xG (qD N (B.tuples.length:Int) d) λD=>xG (ck (C+D)) λE=>some (.go E)) c.rels 0 0) λF=>if (decide (4000<F)) then some ((default,0,[],[],[],[],0,false),3) else xG (qD N c.size d) λf=>xG (pN ([]:(List B4)) f) λG=>xG (pN (0:Int) f) λi=>oZ (σ:=(List Int)×(List Int)) (qM (λe s=>match s with | (j,p)=>xG (ix j (e:Int)) λP=>xG (ix p (e:Int)) λQ=>some (.go ((j.set ((e:Int)).toNat (-1)),(p.set ((e:Int)).toNat (-1))))) f.toNat 0 (i,i)) λ(t,x)=>oZ (σ:=(List B7)×(List (List B4))) (oM (λH (I:Rel) s=>match s with | (K,L)=>xG (cX N c.size I) λh=>xG (ap K ([(B7.mk h.1 h.2.1 h.2.2)])) λy=>xG (jJ N c d y L t x 0 false (H:Int)) λz=>some (.go (y,z))) c.rels 0 ([],G)) λ(M,A)=>some ((c,d,M,A,t,x,0,false),0)
theorem xAh {x0 j} (r) (hR:gF N x0 j=some r) {e} (O) (hN:HN B O) (d:Bo B O (Pt 2 xB) e x0) (E:xL j):CG B O 103 #[e,xA j] (bif r.2 != 0 then (.fa (xL r.2) <| .st (.tuple #[.pointer none,xA r.2]) λD=>D) else (.n λai=>.v λaj=>.v λak=>.v λal=>.v λam=>.v λan=>.fa (Bo B O (Pt 2 xB) aj r.1.1) <| .fa (xL r.1.2.1) <| .fa (xL r.1.2.2.2.2.2.2.1) <| .fa (xL r.2) <| .st (.tuple #[oK ai,xA r.2]) λD=>bx ai [aj,xA r.1.2.1,ak,al,am,an,xA r.1.2.2.2.2.2.2.1,.bool r.1.2.2.2.2.2.2.2] 213::rw B 1 (RP 3 kQ) 214 ak r.1.2.2.1::rl 1 (kP 2 qY) 281 al r.1.2.2.2.1::rl 1 xF 2 am r.1.2.2.2.2.1::rl 1 xF 2 an r.1.2.2.2.2.2.1::D)):=by
 unfold gF at hR
 revert r
 refine vM func103 [(0,e),(1,xA j)] hN λr=>?_;refine xI (xM 2 rfl (xK 1 rfl (xC 1 rfl (qZ (λs1=>.fa (xL s1) <| .st [(0,e),(1,xA j),(6,xA s1)] []) ?_ (λ_ _=>?_)))))
 ·
  refine zK ?_;refine jl (λk1 s2=>.fa (xL s2) <| .st [(7,xA (k1:Int)),(0,e),(1,xA j),(6,xA s2)] []) ⟨xO,ls⟩ (λ_ s2 _ q1 i1=>?_) (λk1 _ _ W y1 _=>?_)
  ·have l1:=oU q1;refine xR (jA 2 rfl (jN d (aF d xB.f1 λ_ h1=>aR h1 λ_ h2=>jL h2 λ_=>xC 1 rfl (kJ l1 (xN ?_)))));exact jf ⟨i1,ls⟩
  refine xR (jA 2 rfl (jN d (aF d xB.f1 λ_ h3=>aR h3 λ_ h4=>jL h4 λi2=>xC 1 rfl (kO (xX W) (xY ?_)))));have j1:=dS (Ah W) i2;refine xAp (jA 2 rfl (jN d (aF d xB.f1 λ_ h5=>aR h5 λ_ h6=>jo rfl (jI h6 y1 λ_ bg=>aF bg oQ.f1 λ_ h7=>aR h7 λ_ h8=>jL h8 λi3=>jo rfl ?_))));refine jB λz1 c1=>(jk (λH=>zH z1 c1 _ aA i3 E) λda=>jB λz2 c2=>(bN c2 (kZ 1 rfl (jo rfl (xU (qG W i2) (xC 1 rfl ?_))))));exact jg ⟨(kA c2),ls⟩
 refine cF (xC 2 rfl (xT ?_ ?_))
 ·refine xI (oE 2 rfl (js [] rfl ?_));exact j2 (rt rfl) (rt rfl) ⟨lL,lv⟩
 refine qR (jo rfl (jN d (aF d xB.f0 λ_ h9=>aP h9 λi4=>jo rfl (jB λi c3=>(jk (λH=>zH i c3 _ aA i4 E) λp=>xW 1 rfl (jB λL P=>?_))))));refine jB λI x=>(jD (jdp (f:=3) (ls:=#[true,true,true,true,true,true,true,true,false,false,false]) (.v λz=>.v λv2=>.v λv3=>.fa (xL i) <| .st [(0,e),(8,xA i),(42,e),(43,xA j),(45,z),(47,v2),(49,v3)] [rl 1 (bO 2 qY 280) 281 z L,rl 1 xF 2 v2 I,rl 1 xF 2 v3 I]) (λz v2 v3 i5=>?_) (λH1=>?_)))
 ·
  refine jE 8 rfl ?_;refine oV (hone:=(λH=>oc (H.a d).pone (oc rfl (oc (H.l 0 rfl).one (oc (H.l 1 rfl).one (oc (H.l 2 rfl).one on)))))) e5 (qK (jE 9 rfl (jX e2 λy=>qK (zF [10] rfl (iT (cF (xC 1 rfl ?_)))))));refine qZ (λ(Q,S)=>.v λA=>.v λC=>.st [(0,e),(9,oK y)] [bx y [e,xA j,kW,z,A,C,xA 0,.bool false] 213,rl 1 (bO 2 qY 280) 281 z L,rl 1 xF 2 A Q,rl 1 xF 2 C S]) ?_ (λ(Q,S) A C=>?_)
  ·
   refine zK ?_;refine jc (λk2 (s5,s6)=>.v λT=>.v λU=>.st [(10,xA (k2:Int)),(0,e),(8,xA i),(9,oK y)] [bx y [e,xA j,kW,z,T,U,xA 0,.bool false] 213,rl 1 (bO 2 qY 280) 281 z L,rl 1 xF 2 T s5,rl 1 xF 2 U s6]) ⟨_,_,ls⟩ (λ_ (s5,s6) _ K T U=>?_) (λ_ k2 (s5,s6) K T U=>?_)
   ·have l2:=vD K;refine xR (xC 3 rfl (kJ l2 (xN ?_)));exact jf ⟨_,_,ls⟩
   refine xR (xC 3 rfl (kO (qP K) (xY ?_)));have j3:=dT K i5;refine qE (jA 2 rfl (xZ e2 (jb 0 e3 (jo rfl (jB λz6 c6=>(jRl 2 c6 λ_ bh=>js [2,0,1,3] rfl (jh (λH=>H.lw) (jS bh (dL c6) (λH=>Eo.int bC) rfl (jh (λH=>H.tl) ?_)))))))));refine lT (jA 2 rfl (xZ e2 (jb 1 e3 (jo rfl (jB λz7 c7=>(jRl 3 c7 λ_ bi=>js [3,0,1,2] rfl (jh (λH=>H.lw) (jS bi (dL c7) (λH=>Eo.int bC) rfl (jh (λH=>H.tl) ?_)))))))));refine dQ (jo rfl (xU (vY K i5) (xC 1 rfl (js [2,3,1,0] rfl ?_))));exact jg ⟨_,_,ls⟩
  refine cF (xC 1 rfl ?_);refine qZ (λ(s7,s8)=>.v λv8=>.v λv9=>.st [(9,oK y)] [rw B 1 (RP 3 kQ) 214 v8 s7,bx y [e,xA j,v8,v9,A,C,xA 0,.bool false] 213,rl 1 (bO 2 qY 280) 281 v9 s8,rl 1 xF 2 A Q,rl 1 xF 2 C S]) ?_ (λ(s7,s8) v8 v9=>?_)
  ·
   refine zK (jh (λH=>H.nl 1 (RP 3 kQ) 214) (jh (λH=>H.lw) (jh (λH=>H.wk) ?_)));refine jl (λk3 (s9,X)=>.v λY=>.v λM=>.st [(11,xA (k3:Int)),(0,e),(9,oK y)] [rw B 1 (RP 3 kQ) 214 Y s9,bx y [e,xA j,Y,M,A,C,xA 0,.bool false] 213,rl 1 (bO 2 qY 280) 281 M X,rl 1 xF 2 A Q,rl 1 xF 2 C S]) ⟨_,_,ls⟩ (λ_ (s9,X) _ q2 Y M=>?_) (λk3 _ (s9,X) Z y2 _ M=>?_)
   ·have l3:=oU q2;refine xR (jA 2 rfl (jN d (aF d xB.f1 λ_ bj=>aR bj λ_ bm=>jL bm λ_=>xC 1 rfl (kJ l3 (xN ?_)))));exact jf ⟨_,_,ls⟩
   refine xR (jA 2 rfl (jN d (aF d xB.f1 λ_ bn=>aR bn λ_ bp=>jL bp λi6=>xC 1 rfl (kO (xX Z) (xY ?_)))));have j4:=dS (Ah Z) i6;have m1:=qG Z i6;refine uV (jB λz8 c8=>(jB λz9 c9=>(jD (zF [0,1,2] rfl (kB 3 rfl e2 (zF [5] rfl (jvN 6 rfl d (iO 7 rfl d xB.f0 λ_ br=>aW 8 rfl br λi7=>zF [9] rfl ?_))))))));refine jvN 10 rfl d (iO 11 rfl d xB.f1 λ_ bs=>rK 12 rfl bs λ_ bt=>zF [13] rfl (pQ 14 rfl bt y2 λ_ ao=>eG (λH=>H) 4 15 rfl rfl ?_ ?_))
   ·refine jb 1 e3 (qK (jE 15 rfl (jk (λH=>sH z8 c8 _ aA i7 (H.a ao)) λ_ _ i8 i9=>qK (jE 16 rfl (jh (λH=>H.mg) (cZ λw1 X1 N2 _ g1 e1 bu F=>(jR1 (N1:=N2) n1 (λH=>Eo.ptr (H.u (kQ.b g1.l.bk i8 i9 g1.r.ld))) (λ_=>?_))))))));refine xHb (λH=>F Ab.rw H (Ns.all ⟨n1,⟨n0,⟨n0,⟨n0,⟨n0,trivial⟩⟩⟩⟩⟩)) ?_;refine jEt (λH=>F Ab.rw H (Ns.all ⟨n1,⟨n0,⟨n0,⟨n0,⟨n0,trivial⟩⟩⟩⟩⟩)) 17 rfl (js [1,0,2,3,4,5] rfl (jh (λH=>H.up (λc h=>(bu.2.2 c h))) (jP c9 (λdb=>?_))));refine xHb (λH=>F Ab.rw H (Ns.all ⟨n0,⟨n0,⟨n0,⟨n0,trivial⟩⟩⟩⟩)) (zF [18] rfl (kB 19 rfl e2 ?_));refine jEt (λH=>F Ab.rw H (Ns.all ⟨n0,⟨n0,⟨n0,⟨n0,trivial⟩⟩⟩⟩)) 20 rfl (js [1,0,2,3,4] rfl (jW (hv:=(λH=>(H.r 1 rfl).one)) e3 ?_));refine xHb (λH=>F Ab.rw (H.s [1,0,2,3,4] rfl rfl) (Ns.all ⟨n0,⟨n0,⟨n0,⟨n0,trivial⟩⟩⟩⟩)) (iT (xMt (jA 2 rfl (jB λbv bw=>(jko 5 (λK1 H=>pU bv bw _ H.hN K1 (H.u (e1 d)) E xO j4) λdc=>dQ (jo rfl (xU m1 (xC 1 rfl ?_))))))));refine js [1,0,2,3,4] rfl ?_;refine jh (λH=>F Ab.rw H (Ns.all ⟨n0,⟨n0,⟨n0,⟨n0,trivial⟩⟩⟩⟩)) ?_;exact jg ⟨_,_,ls⟩
   refine jk (λH=>sH z8 c8 _ aA i7 (H.a ao)) λ_ _ aq ar=>qK (eG (λH=>H) 4 16 rfl rfl ?_ ?_)
   ·refine jb 3 e3 (qK (jE 16 rfl (jh (λH=>H.mg) (cZ λw2 X2 N3 _ g2 e4 c0 G=>(jR1 (N1:=N3) n1 (λH=>Eo.ptr (H.u (kQ.b g2.l.bk aq ar g2.r.ld))) (λ_=>?_))))));refine xHb (λH=>G Ab.rw H (Ns.all ⟨n1,⟨n0,⟨n0,⟨n0,⟨n0,trivial⟩⟩⟩⟩⟩)) ?_;refine jEt (λH=>G Ab.rw H (Ns.all ⟨n1,⟨n0,⟨n0,⟨n0,⟨n0,trivial⟩⟩⟩⟩⟩)) 17 rfl (js [1,0,2,3,4,5] rfl (jh (λH=>H.up (λc h=>(c0.2.2 c h))) (jP c9 (λdd=>?_))));refine xHb (λH=>G Ab.rw H (Ns.all ⟨n0,⟨n0,⟨n0,⟨n0,trivial⟩⟩⟩⟩)) (zF [18] rfl (kB 19 rfl e2 ?_));refine jEt (λH=>G Ab.rw H (Ns.all ⟨n0,⟨n0,⟨n0,⟨n0,trivial⟩⟩⟩⟩)) 20 rfl (js [1,0,2,3,4] rfl (jW (hv:=(λH=>(H.r 1 rfl).one)) e3 ?_));refine xHb (λH=>G Ab.rw (H.s [1,0,2,3,4] rfl rfl) (Ns.all ⟨n0,⟨n0,⟨n0,⟨n0,trivial⟩⟩⟩⟩)) (iT (xMt (jA 2 rfl (jB λz11 c11=>(jko 5 (λK2 H=>pU z11 c11 _ H.hN K2 (H.u (e4 d)) E xO j4) λde=>dQ (jo rfl (xU m1 (xC 1 rfl ?_))))))));refine js [1,0,2,3,4] rfl ?_;refine jh (λH=>G Ab.rw H (Ns.all ⟨n0,⟨n0,⟨n0,⟨n0,trivial⟩⟩⟩⟩)) ?_;exact jg ⟨_,_,ls⟩
   refine jh (λH=>H.mg) (cZ λw3 X3 N4 _ g3 e6 th3 t=>(jR1 (N1:=N4) n1 (λH=>Eo.ptr (H.u (kQ.b g3.l.bk aq ar g3.r.ld))) (λ_=>?_)));refine xHb (λH=>t Ab.rw H (Ns.all ⟨n1,⟨n0,⟨n0,⟨n0,⟨n0,trivial⟩⟩⟩⟩⟩)) ?_;refine jEt (λH=>t Ab.rw H (Ns.all ⟨n1,⟨n0,⟨n0,⟨n0,⟨n0,trivial⟩⟩⟩⟩⟩)) 4 rfl (jb 2 e3 ?_);refine xHb (λH=>t Ab.rw H (Ns.all ⟨n1,⟨n0,⟨n0,⟨n0,⟨n0,trivial⟩⟩⟩⟩⟩)) ?_;refine jEt (λH=>t Ab.rw H (Ns.all ⟨n1,⟨n0,⟨n0,⟨n0,⟨n0,trivial⟩⟩⟩⟩⟩)) 17 rfl (js [1,0,2,3,4,5] rfl (jh (λH=>H.up (λc h=>(th3.2.2 c h))) (jP c9 (λdf=>?_))));refine xHb (λH=>t Ab.rw H (Ns.all ⟨n0,⟨n0,⟨n0,⟨n0,trivial⟩⟩⟩⟩)) (zF [18] rfl (kB 19 rfl e2 ?_));refine jEt (λH=>t Ab.rw H (Ns.all ⟨n0,⟨n0,⟨n0,⟨n0,trivial⟩⟩⟩⟩)) 20 rfl (js [1,0,2,3,4] rfl (jW (hv:=(λH=>(H.r 1 rfl).one)) e3 ?_));refine xHb (λH=>t Ab.rw (H.s [1,0,2,3,4] rfl rfl) (Ns.all ⟨n0,⟨n0,⟨n0,⟨n0,trivial⟩⟩⟩⟩)) (iT (xMt (jA 2 rfl (jB λc4 c5=>(jko 5 (λK3 H=>pU c4 c5 _ H.hN K3 (H.u (e6 d)) E xO j4) λdg=>dQ (jo rfl (xU m1 (xC 1 rfl ?_))))))));refine js [1,0,2,3,4] rfl ?_;refine jh (λH=>t Ab.rw H (Ns.all ⟨n0,⟨n0,⟨n0,⟨n0,trivial⟩⟩⟩⟩)) ?_;exact jg ⟨_,_,ls⟩
  refine oO (xS 3 rfl (js [2,0,1,3,4] rfl (jh (λH=>Sep.rr H) (js [2,1,0,3,4] rfl ?_))));exact j2 (rt rfl) (rt rfl) ⟨_,_,_,_,_,_,d,E,xO,xO,lv⟩
 refine jdp (f:=4) (ls:=#[true,true,true,false,true,true,true,true,false,false,false]) (.v λa0=>.v λa1=>.fa (xL i) <| .fa (xL i) <| .st [(0,e),(8,xA i),(42,e),(43,xA j),(44,xA i),(47,a0),(49,a1)] [rl 1 xF 2 a0 I,rl 1 xF 2 a1 I]) (λa0 a1 i12 _=>?_) (λH2=>?_)
 ·refine jE 3 rfl (jRM (R:=(bO 2 qY 280)) (λw=>bO.nil w) P λdh=>qK ?_);exact H1 ⟨_,_,_,i12,ls⟩
 refine jdp (f:=4) (ls:=#[true,true,true,true,true,true,true,false,false,false,false]) (.v λa2=>.v λa3=>.fa (xL i) <| .fa (xL i) <| .st [(0,e),(8,xA i),(42,e),(43,xA j),(45,a2),(47,a3),(48,xA i)] [rl 1 (bO 2 qY 280) 281 a2 L,rl 1 xF 2 a3 I]) (λa2 a3 i13 _=>?_) (λH3=>?_)
 ·refine jE 7 rfl ?_;refine jRM (R:=xF) (λw=>⟨rfl,by decide,rfl⟩) x λdi=>qK (js [1,2,0] rfl ?_);exact H1 ⟨_,_,_,i13,ls⟩
 refine jdp (f:=4) (ls:=#[true,true,true,true,true,false,true,true,false,false,false]) (.v λa4=>.v λa5=>.fa (xL i) <| .fa (xL i) <| .st [(0,e),(8,xA i),(42,e),(43,xA j),(45,a4),(46,xA i),(49,a5)] [rl 1 (bO 2 qY 280) 281 a4 L,rl 1 xF 2 a5 I]) (λa4 a5 i14 _=>?_) (λH4=>?_)
 ·refine jE 5 rfl ?_;refine jRM (R:=xF) (λw=>⟨rfl,by decide,rfl⟩) x λdj=>qK (js [1,0,2] rfl ?_);exact H1 ⟨_,_,_,i14,ls⟩
 refine zF [0,1,2,4,6] rfl (xKa (λH=>H) 3 5 7 rfl rfl rfl ?_ ?_ ?_)
 ·
  refine jRM (R:=(bO 2 qY 280)) (λw=>bO.nil w) P λdk=>qK (eG (λH=>H) 5 7 rfl rfl ?_ ?_)
  ·refine jRM (R:=xF) (λw=>⟨rfl,by decide,rfl⟩) x λdm=>qK (js [1,0] rfl ?_);exact H3 ⟨_,_,p,p,ls⟩
  refine jRM (R:=xF) (λw=>⟨rfl,by decide,rfl⟩) x λdp=>qK (js [1,0] rfl ?_);exact H4 ⟨_,_,p,p,ls⟩
 ·
  refine jRM (R:=xF) (λw=>⟨rfl,by decide,rfl⟩) x λdq=>qK (eG (λH=>H) 3 7 rfl rfl ?_ ?_)
  ·refine jRM (R:=(bO 2 qY 280)) (λw=>bO.nil w) P λdr=>qK ?_;exact H3 ⟨_,_,p,p,ls⟩
  refine jRM (R:=xF) (λw=>⟨rfl,by decide,rfl⟩) x λds=>qK (js [1,0] rfl ?_);exact H2 ⟨_,_,p,p,ls⟩
 refine jRM (R:=xF) (λw=>⟨rfl,by decide,rfl⟩) x λdu=>qK (eG (λH=>H) 3 5 rfl rfl ?_ ?_)
 ·refine jRM (R:=(bO 2 qY 280)) (λw=>bO.nil w) P λdw=>qK ?_;exact H4 ⟨_,_,p,p,ls⟩
 refine jRM (R:=xF) (λw=>⟨rfl,by decide,rfl⟩) x λdx=>qK ?_;exact H2 ⟨_,_,p,p,ls⟩
def dN (h:A6) (t:Int) (x:List B7) (y:List (List B4)) (i d:List Int) (z:Int) (A:Bool) (c:Int):Option Int:= xG (ix i c) λe=>if (decide (0<=e)) then xG (ix d c) λj=>if (decide (j<0)) then some e else some ((-1)) else xG (ix d c) λp=>xG (ck (p+1)) λf=>if (decide (f<h.size)) then some f else some ((-1))
theorem xCq {K:A6} {d:Int} {L:List B7} {M:List (List B4)} {N j:List Int} {e:Int} {p:Bool} {i:Int} (r:Int) (U:dN K d L M N j e p i=some r) {h:Nat} {t:Vl} {x:Vl} {y:Vl} {z:Vl} {f:Vl} {O:List Nat} (c:Wd) (hN:HN B c) (W:Sep O B c c [bx h [t,xA d,x,y,z,f,xA e,.bool p] 213,rl 1 xF 2 f j]) (G:Bo B c (Pt 2 xB) t K) (a7:xL d) (a8:Bo B c (Sl 1 (RP 3 kQ)) x L) (a9:Bo B c (Sl 1 (kP 2 qY)) y M) (I:Bo B c (Sl 1 xF) z N) (aa:xL e) (ab:xL i):Calls prog 160 #[oK h,xA i] c (Gt B c O (.fa (xL r) <| .st (xA r) λD=>bx h [t,xA d,x,y,z,f,xA e,.bool p] 213::rl 1 xF 2 f j::D)):=by
 unfold dN at U
 revert r
 refine jin func160 [(0,oK h),(1,xA i)] W λr=>?_;refine xI (xK 1 rfl (jA 2 rfl (xZ e2 (jb 0 e3 (jo rfl (jB λz1 P=>(jI I P λ_ X=>aP X λ_=>jo rfl ?_)))))));refine kD (xT ?_ ?_)
 ·
  refine xR (jA 2 rfl (xZ e2 (jb 0 e3 (jo rfl (jB λz2 Y=>(js [1,0] rfl (cZ λ_ _ _ S Z _ A _=>(jI Z.ld Y λ_ h2=>aP h2 λ_=>jo rfl ?_))))))));refine kD (xT ?_ ?_)
  ·refine xI (jA 2 rfl (xZ e2 (jb 0 e3 (jo rfl (jI I P λ_ h3=>aP (s:=λH=>(S.trans (Sm.mono H.sm A.2.2))) h3 λi1=>jo rfl (xIx (aI A (js [1,0] rfl ?_))))))));exact j1 (rt rfl) ⟨i1,lv⟩
  refine qR (oE 1 rfl (aI A (js [1,0] rfl ?_)));exact j1 (rt rfl) ⟨bC,lv⟩
 refine xLb (js [1,0] rfl (cZ λ_ _ _ T g2 _ C _=>?_));have Q:=g2.ld;refine jQ (zA 2 rfl (sW e2 (jqb 0 e3 (zA 1 rfl (jB λz3 R=>(lM Q R λ_ h5=>kI h5 λ_=>jB λz4 E=>(jqv (λF H w l=>wH F rfl rfl E) (zA 2 rfl ?_))))))));refine sW e2 (jqb 0 e3 (jqN G (cI G xB.f0 λ_ h6=>kI (s:=λH w l=>(T.trans (Sm.mono (H.q w l) C.2.2))) h6 λ_=>zA 1 rfl (nD (eD (xT ?_ ?_))))))
 ·refine xI (jA 2 rfl (xZ e2 (jb 0 e3 (jo rfl (jI Q R λ_ h7=>aP h7 λ_=>bN E (oE 1 rfl (aI C ?_)))))));refine js [1,0] rfl ?_;exact j1 (rt rfl) ⟨(kA E),lv⟩
 refine qR (xS 1 rfl (aI C (js [1,0] rfl ?_)));exact j1 (rt rfl) ⟨bC,lv⟩
def rI (c d:List Int):Option (List Int):= oZ (σ:=List Int) (oM (λp (e:Int) f=>xG (ix c e) λh=>xG (ap f ([h])) λi=>some (.go i)) d 0 []) λj=>some j
theorem xEz {t x} (r) (C:rI t x=some r) {c d} (e) (hN:HN B e) (E:Bo B e (Sl 1 xF) c t) (h:Bo B e (Sl 1 xF) d x):CG B e 170 #[c,d] (.v λp=>.st (p) λD=>rl 1 xF 2 p r::D):=by
 unfold rI at C
 revert r
 refine vM func170 [(0,c),(1,d)] hN λr=>?_;refine xI (xM 1 rfl (jR0 xF λQ=>xK 1 rfl (xC 1 rfl (qZ (λF=>.v λi=>.st [(5,i)] [rl 1 xF 2 i F]) ?_ (λ_ i=>?_)))))
 ·
  refine zK ?_;refine jl (λy z=>.v λj=>.st [(6,xA (y:Int)),(0,c),(1,d),(5,j)] [rl 1 xF 2 j z]) ⟨_,ls⟩ (λ_ z _ G j=>?_) (λy _ _ f I _=>?_)
  ·have K:=oU G;refine xR (jA 2 rfl (jL h λ_=>xC 1 rfl (kJ K (xN ?_))));exact jf ⟨_,ls⟩
  refine xR (jA 2 rfl (jL h λA=>xC 1 rfl (kO (xX f) (xY ?_))));have j2:=dS (Ah f) A;refine xAp (jA 4 rfl (jI h I λ_ L=>aP L λ_=>jB λR M=>(jI E M λ_ N=>aP N λO=>lQ (λH=>Eo.int O) λ_=>jB λS P=>(js [1,0] rfl (jPL P (λT=>?_))))));refine kZ 1 rfl (jo rfl (xU (qG f A) (xC 1 rfl ?_)));exact jg ⟨_,ls⟩
 refine oO (xS 2 rfl ?_);exact j1 (rt rfl) ⟨_,lv⟩
def eM (e:A6) (A:Int) (f:List B7) (h:List (List B4)) (B i:List Int) (C:Int) (D:Bool) (j:Int):Option Bool:= xG (ix h j) λc=>oZ (σ:=Unit) (qM (λp s=>match s with | _=>xG (ix c (p:Int)) λd=>xG (ix f d.rel) λt=>xG (rI i d.ats) λx=>xG (kV e.size x) λy=>xG (ix t.has y) λz=>if (!z) then some (.ret false) else some (.go ())) (c.length:Int).toNat 0 ()) λ_=>some true
theorem xEf {M:A6} {h:Int} {N:List B7} {O:List (List B4)} {P p:List Int} {i:Int} {t:Bool} {E:Int} (r:Bool) (hR:eM M h N O P p i t E=some r) {e:Nat} {x:Vl} {y:Vl} {z:Vl} {A:Vl} {d:Vl} {R:List Nat} (c:Wd) (hN:HN B c) (S0:Sep R B c c [bx e [x,xA h,y,z,A,d,xA i,.bool t] 213,rl 1 xF 2 d p]) (L:Bo B c (Pt 2 xB) x M) (an:xL h) (U:Bo B c (Sl 1 (RP 3 kQ)) y N) (G:Bo B c (Sl 1 (kP 2 qY)) z O) (ao:Bo B c (Sl 1 xF) A P) (aq:xL i) (ar:xL E):Calls prog 161 #[oK e,xA E] c (Gt B c R (.st (.bool r) λD=>bx e [x,xA h,y,z,A,d,xA i,.bool t] 213::rl 1 xF 2 d p::D)):=by
 unfold eM at hR
 revert r
 refine jin func161 [(0,oK e),(1,xA E)] S0 λr=>?_;refine xI (xK 1 rfl (xC 1 rfl (jB λz1 I=>?_)));refine qZ (λ_=>.st [(0,oK e)] [bx e [x,xA h,y,z,A,d,xA i,.bool t] 213,rl 1 xF 2 d p]) ?_ (λ_=>?_)
 ·
  refine zK ?_;refine jc (λS _=>.st [(5,xA (S:Int)),(0,oK e),(1,xA E)] [bx e [x,xA h,y,z,A,d,xA i,.bool t] 213,rl 1 xF 2 d p]) ls (λ_ _ _ C=>?_) (λ_ S _ C=>?_)
  ·have l1:=vD C;refine xR (jA 3 rfl (xZ e2 (jb 0 e3 (jo rfl (jI G I λ_ h1=>aR h1 λ_ h2=>jL h2 λ_=>xC 1 rfl (kJ l1 ?_))))));refine xN ?_;exact jf ls
  refine xR (jA 3 rfl (xZ e2 (jb 0 e3 (jo rfl (jI G I λ_ h3=>aR h3 λ_ h4=>jL h4 λT=>xC 1 rfl (kO (qP C) ?_))))));refine xY ?_;have j2:=dT C T;refine qE (jA 2 rfl (xZ e2 (jb 0 e3 (jo rfl (jI G I λ_ h5=>aR h5 λ_ h6=>jo rfl (jB λz2 c2=>(jI h6 c2 λ_ F=>jo rfl ?_)))))));refine yD (jB λz3 c3=>(jB λz4 c4=>(jB λz5 c5=>(jB λz6 c6=>(cZ λ_ _ _ j g1 e1 f _=>?_)))));have K:=g1.bk;refine jD (zF [0,1] rfl (kB 2 rfl e2 (iG 3 rfl K e2 (zF [4] rfl (jvN 5 rfl F (iO 6 rfl F qY.f0 λ_ h8=>aW (s:=λH w l=>(j.trans (Sm.mono (H.v w l) f.2.2))) 7 rfl h8 λ_=>pQ 8 rfl U c3 λ_ h9=>jvlP (s:=λH w l=>(j.trans (Sm.mono (H.v w l) f.2.2))) 9 rfl h9 λ_ Q=>jvN 10 rfl Q ?_))))));refine iO 11 rfl Q kQ.f2 λ_ W=>rK (s:=λH w l=>(j.trans (Sm.mono (H.v w l) f.2.2))) 12 rfl W λ_ X=>zF [13,14] rfl (kB 15 rfl e2 (iG 16 rfl K e2 (jvN 17 rfl L (iO 18 rfl L xB.f0 λ_ Y=>aW (s:=λH w l=>(j.trans (Sm.mono (H.v w l) f.2.2))) 19 rfl Y λi2=>zF [20,21] rfl (kB 22 rfl e2 (iG 23 rfl K e2 ?_))))));refine zF [24] rfl (jvN 25 rfl F (iO 26 rfl F qY.f1 λ_ Z=>rK (s:=λH w l=>(j.trans (Sm.mono (H.v w l) f.2.2))) 27 rfl Z λ_ a0=>jE 28 rfl (jk (λH=>xEz z4 c4 _ aA (H.l 0 rfl) (H.a (e1 a0))) λ_=>qK (jE 29 rfl (jk (λH=>mC z5 c5 _ aA i2 (H.l 0 rfl)) λau=>qK (pQ 30 rfl X c6 (λ_ a1=>?_)))))));refine jvlB (s:=λH w l=>(j.trans (Sm.mono (H.v w l) f.2.2))) 31 rfl a1 (zF [32] rfl (iT (eD (xT ?_ ?_))))
  ·refine xI (oY 1 rfl (fZ (zR (fH (lD (aI f (js [0,2] rfl ?_)))))));exact j1 (rt rfl) lv
  refine qJ (jo rfl (xU (vY C T) (xC 1 rfl (js [1] rfl (aI f ?_)))));exact jg ls
 refine oO (xS 1 rfl ?_);exact j1 (rt rfl) lv
def eK (N:Nat) (j:A6) (p:Int) (t:List B7) (x:List (List B4)) (y i:List Int) (A:Int) (B:Bool):Option (Bool×Int×(List Int)×Int×Bool):= oZ (σ:=Int) (if B then xG (ck ((i.length:Int) - 1)) λC=>some (.nx C) else some (.nx 0)) λD=>oZ (σ:=Int×(List Int)×Int) (mL (λs=>match s with | (c,d,h)=>if (decide (0<=c)) then xG (dN j p t x y d h true c) λf=>if (decide (f<0)) then xG (ix d c) λI=>xG (ck (c - 1)) λE=>some (.go (E,(d.set (c).toNat (-1)),h)) else xG (ck (h+1)) λe=>if (decide (6000<e)) then some (.ret (false,7,d,e,true)) else xG (ix d c) λK=>xG (eM j p t x y (d.set (c).toNat f) e true c) λF=>if (!F) then some (.go (c,(d.set (c).toNat f),e)) else xG (ck (c+1)) λz=>if (z==(i.length:Int)) then some (.ret (true,0,(d.set (c).toNat f),e,true)) else some (.go (z,(d.set (c).toNat f),e)) else some (.brk (c,d,h))) N (D,i,A)) λ(L,G,H)=>some (false,0,G,H,true)
theorem xEh {S:A6} {e:Int} {T:List B7} {U:List (List B4)} {W t:List Int} {x:Int} {A:Bool} (r:Bool×Int×(List Int)×Int×Bool) (hR:eK N S e T U W t x A=some r) {c:Nat} {f:Vl} {h:Vl} {i:Vl} {j:Vl} {y:Vl} {Y:List Nat} (d:Wd) (hN:HN B d) (S0:Sep Y B d d [bx c [f,xA e,h,i,j,y,xA x,.bool A] 213,rl 1 xF 2 y t]) (M:Bo B d (Pt 2 xB) f S) (O:xL e) (P:Bo B d (Sl 1 (RP 3 kQ)) h T) (Q:Bo B d (Sl 1 (kP 2 qY)) i U) (R:Bo B d (Sl 1 xF) j W) (a7:xL x):Calls prog 104 #[oK c] d (Gt B d Y (.v λX=>.fa (xL r.2.1) <| .fa (xL r.2.2.2.1) <| .st (.tuple #[.bool r.1,xA r.2.1]) λD=>bx c [f,xA e,h,i,j,X,xA r.2.2.2.1,.bool r.2.2.2.2] 213::rl 1 xF 2 X r.2.2.1::D)):=by
 unfold eK at hR
 revert r
 refine jin func104 [(0,oK c)] S0 λr=>?_;refine xI (xM 2 rfl (jA 2 rfl (xZ e2 (jb 0 e3 (jLc (λH=>H.l 1 rfl) λ_=>xM 1 rfl (xK 1 rfl ?_))))));refine jA 2 rfl (xZ e2 (jb 0 e3 (kD ?_)));refine qZ (λC=>.fa (xL C) <| .st [(0,oK c),(4,xA (t.length:Int)),(5,xA C)] [bx c [f,xA e,h,i,j,y,xA x,.bool A] 213,rl 1 xF 2 y t]) ?_ (λC i1=>?_)
 ·
  refine xT ?_ ?_
  ·refine lP (jo rfl (jB λz1 Z=>(gM Z (xC 1 rfl ?_))));exact jf ⟨(kA Z),ls⟩
  refine xTx ?_;exact jf ⟨xO,ls⟩
 refine oO (jA 2 rfl (xZ e2 (jW e3 (yD ?_))));refine qZ (λ(s2,s3,E)=>.v λF=>.fa (xL s2) <| .fa (xL E) <| .st [(0,oK c)] [bx c [f,xA e,h,i,j,F,xA E,.bool true] 213,rl 1 xF 2 F s3]) ?_ (λ(s2,s3,E) F _ i2=>?_)
 ·
  refine zK ?_;refine jw (λ(G,s6,I)=>.v λK=>.fa (xL G) <| .fa (xL I) <| .st [(0,oK c),(4,xA (t.length:Int)),(5,xA G)] [bx c [f,xA e,h,i,j,K,xA I,.bool true] 213,rl 1 xF 2 K s6]) ⟨_,i1,a7,ls⟩ (λ_ (G,s6,I) K z L=>?_);refine xR (xC 2 rfl (xT ?_ ?_))
  ·
   refine xCj (jA 2 rfl (jB λz2 c2=>(jko 2 (λK1 H=>xCq z2 c2 _ H.hN K1 (H.u M) O (H.u P) (H.u Q) (H.u R) L z) λi5=>xK 1 rfl (xC 2 rfl (xT ?_ ?_)))))
   ·refine xI (jA 2 rfl (xZ e2 (jb 0 e3 (jo rfl (jB λz3 c3=>(jRl 1 c3 λ_ a8=>js [1,0] rfl (jh (λH=>H.lw) (jS a8 (dL c3) (λH=>Eo.int bC) rfl (jh (λH=>H.tl) ?_)))))))));refine qW (jo rfl (jB λz4 c4=>(gM c4 (jo rfl (xXv (js [1,0] rfl ?_))))));exact jg ⟨_,(kA c4),L,ls⟩
   refine qR (jA 2 rfl (xZ e2 (jb 0 e3 (jB λz5 p=>(bN p (jo rfl (xZ e2 (jW e3 (dZ (jA 2 rfl ?_))))))))));refine xZ e2 (jb 0 e3 (xC 1 rfl (xT ?_ ?_)))
   ·refine xI (jA 2 rfl (xLt (fZ (zR (fH (lD ?_))))));exact j2 (rt rfl) (rt rfl) ⟨_,xNf,(kA p),lv⟩
   refine qR (jA 2 rfl (xZ e2 (jb 0 e3 (jA 2 rfl (jB λz6 c6=>(jRl 1 c6 λ_ a9=>js [1,0] rfl (jh (λH=>H.lw) (jS a9 (dL c6) (λH=>Eo.int i5) rfl (jh (λH=>H.tl) ?_)))))))));refine dZ (jA 2 rfl (jB λz7 c7=>(js [1,0] rfl (jko 2 (λK2 H=>xEf z7 c7 _ H.hN K2 (H.u M) O (H.u P) (H.u Q) (H.u R) (kA p) z) (xC 1 rfl (xT ?_ ?_))))))
   ·refine oIt ?_;exact jg ⟨_,z,(kA p),ls⟩
   refine qR (jo rfl (jB λz8 c8=>(bN c8 (xM 1 rfl (xC 3 rfl (xT ?_ ?_))))))
   ·refine xI (bA 2 rfl (fZ (zR (fH (lD ?_)))));exact j2 (rt rfl) (rt rfl) ⟨_,xO,(kA p),lv⟩
   refine oFu ?_;exact jg ⟨_,(kA c8),(kA p),ls⟩
  refine nS (jbk (wJ ?_));exact jf ⟨_,z,L,ls⟩
 refine oO (xS 2 rfl ?_);exact j2 (rt rfl) (rt rfl) ⟨_,xO,i2,lv⟩
def gW (f:A6) (c:Int) (h:List B7) (i:List (List B4)) (j d:List Int) (p:Int) (t:Bool):Option Op:= xG (zO d) λe=>some ((Op.mk c e))
theorem xHi {z:A6} {d:Int} {A:List B7} {C:List (List B4)} {E i:List Int} {e:Int} {j:Bool} (r:Op) (M:gW z d A C E i e j=some r) {h:Nat} {p:Vl} {t:Vl} {x:Vl} {y:Vl} {f:Vl} {G:List Nat} (c:Wd) (hN:HN B c) (N:Sep G B c c [bx h [p,xA d,t,x,y,f,xA e,.bool j] 213,rl 1 xF 2 f i]) (R:Bo B c (Pt 2 xB) p z) (K:xL d) (S:Bo B c (Sl 1 (RP 3 kQ)) t A) (T:Bo B c (Sl 1 (kP 2 qY)) x C) (U:Bo B c (Sl 1 xF) y E) (W:xL e):Calls prog 105 #[oK h] c (Gt B c G (.v λF=>.fa (xL r.arity) <| .st (.agg #[xA r.arity,F]) λD=>rl 1 xF 2 F r.table::bx h [p,xA d,t,x,y,f,xA e,.bool j] 213::rl 1 xF 2 f i::D)):=by
 unfold gW at M
 revert r
 refine jin func105 [(0,oK h)] N λr=>?_;refine xI (aK rfl λ_=>yD (jB λO P=>(js [1,0,2] rfl (cZ λ_ _ _ _ Q _ L _=>?_))));have I:=Q.bk;refine jD (zF [0,1] rfl (kB 2 rfl e2 (iG 3 rfl I e2 (zF [4,5] rfl (kB 6 rfl e2 (iG 7 rfl I e2 (jE 8 rfl (jk (λH=>eA O P _ aA (H.l 1 rfl)) λX=>qK (jE 9 rfl ?_)))))))));refine oV (hone:=(λH=>oc rfl (oc (H.l 0 rfl).one on))) e5 (qK (jE 10 rfl (js [1,0,2] rfl ?_)));refine zX (hv:=(λH=>oc rfl (oc (H.l 1 rfl).one on))) e3 (qK (iT (nH (aI L ?_))));exact j1m (λH=>H.s [2,0,3] rfl rfl) (dA 1 e2) ⟨_,K,lv⟩
def pD (N:Nat) (d c e:Int):Option Op:= xG (qD N d c) λf=>oZ (σ:=List Int) (qM (λh i=>xG (vZ N d c (h:Int)) λj=>xG (ix j e) λp=>xG (ap i ([p])) λt=>some (.go t)) f.toNat 0 []) λx=>some ((Op.mk c x))
theorem xBd {f c h} (r) (L:pD N f c h=some r) (C) (hN:HN B C) (t:xL f) (i:xL c) (Y:xL h):CG B C 233 #[xA f,xA c,xA h] (.v λA=>.fa (xL r.arity) <| .st (.agg #[xA r.arity,A]) λD=>rl 1 xF 2 A r.table::D):=by
 unfold pD at L
 revert r
 refine vM func233 [(0,xA f),(1,xA c),(2,xA h)] hN λr=>?_;refine xI (aK rfl λj=>qW (jo rfl (oV e5 (aK rfl λp=>zX e3 (dZ (xC 1 rfl (jB λE F=>?_)))))));refine qZ (λM=>.v λy=>.st [(6,oK j),(7,oK p)] [rl 1 xF 2 y M,bx p [xA c,y] 85,bx j [xA 0,kW] 85]) ?_ (λ_ y=>?_)
 ·
  refine zK (jh (λH=>H.nl 1 xF 2) ?_);refine jc (λG I=>.v λz=>.st [(8,xA (G:Int)),(0,xA f),(1,xA c),(2,xA h),(6,oK j),(7,oK p)] [rl 1 xF 2 z I,bx p [xA c,z] 85,bx j [xA 0,kW] 85]) ⟨_,ls⟩ (λ_ I _ e z=>?_) (λ_ G _ e _=>?_)
  ·have O:=vD e;refine xR (jA 3 rfl (jk (λH=>zH E F _ aA t i) λx=>xC 1 rfl (kJ O (xN ?_))));exact jf ⟨_,ls⟩
  refine xR (jA 3 rfl (jk (λH=>zH E F _ aA t i) λx=>xC 1 rfl (kO (qP e) (xY (zK (jB λP Q=>(jB λZ R=>(jB λz4 S=>?_))))))));refine js [1,0,2] rfl (cZ λ_ _ _ _ T _ K _=>(jD (kB 0 rfl e2 (iG 1 rfl T.bk e2 (zF [2,3,4,6] rfl (jE 5 rfl (jk (λH=>bM P Q _ aA t i (dT e x)) λ_=>qK (jE 7 rfl (cZ λ_ _ _ _ U _ d _=>?_)))))))));refine jI U.ld R (λ_ W=>?_);refine xHb (λH=>d.1 H (Ns.all ⟨n0,⟨n0,trivial⟩⟩)) ?_;refine jEt (λH=>d.1 H (Ns.all ⟨n0,⟨n0,trivial⟩⟩)) 8 rfl (aP W (λX=>?_));refine xHb (λH=>d.1 H (Ns.all ⟨n0,⟨n0,trivial⟩⟩)) ?_;refine jEt (λH=>d.1 H (Ns.all ⟨n0,⟨n0,trivial⟩⟩)) 9 rfl (lQ (λH=>Eo.int X) (λ_=>?_));refine xHb (λH=>d.1 H (Ns.all ⟨n0,⟨n0,⟨n0,trivial⟩⟩⟩)) (jF9 10 rfl (js [1,0,2] rfl (jPL S λv3=>kD (jF9 11 rfl (xZ e2 (kD (jF9 12 rfl (aI d (aI K ?_)))))))));refine jW (hv:=(λH=>(H.l 2 rfl).one)) e3 (kD (iT (aH (jo rfl (xU (vY e x) (xC 1 rfl (js [2,0,3] rfl ?_)))))));exact jg ⟨_,ls⟩
 refine oO (aG 1 e3 (js [2,0,1] rfl ?_));refine zX (hv:=(λH=>oc rfl (oc (H.l 1 rfl).one on))) e3 (pM ?_);exact j1m (λH=>H.s [1] rfl rfl) (dA 0 e2) ⟨_,i,lv⟩
def mV (c d:List Int):Option Bool:= if ((c.length:Int) != (d.length:Int)) then some false else oZ (σ:=Unit) (oM (λe (f:Int) s=>match s with | _=>xG (ix d (e:Int)) λh=>if (f != h) then some (.ret false) else some (.go ())) c 0 ()) λ_=>some true
theorem xBg {i j} (r) (y:mV i j=some r) {c d} (e) (hN:HN B e) (f:Bo B e (Sl 1 xF) c i) (p:Bo B e (Sl 1 xF) d j):CG B e 235 #[c,d] (.st (.bool r) λD=>D):=by
 unfold mV at y
 revert r
 refine vM func235 [(0,c),(1,d)] hN λr=>?_;refine xI (xK 1 rfl (jo rfl (jL f λ_=>jo rfl (jL p λ_=>xC 1 rfl (xT ?_ ?_)))))
 ·refine xI (oE 1 rfl ?_);exact qT (rt rfl) lv
 refine vT (xC 1 rfl (qZ (λ_=>.st [] []) ?_ (λ_=>?_)))
 ·
  refine zK (jl (λt _=>.st [(5,xA (t:Int)),(0,c),(1,d)] []) ls (λ_ _ _ z=>?_) (λt _ _ h A=>?_))
  ·have C:=oU z;refine xR (jA 2 rfl (jL f λ_=>xC 1 rfl (kJ C (xN ?_))));exact jf ls
  refine xR (jA 2 rfl (jL f λx=>xC 1 rfl (kO (xX h) (xY ?_))));have j1:=dS (Ah h) x;refine uV (jQ (zA 2 rfl (lM f A λ_ E=>kI E λ_=>zA 2 rfl (jB λH F=>(lM p F λ_ G=>kI G λ_=>zA 1 rfl (nD ?_))))));refine eD (xT ?_ ?_)
  ·refine xI (oY 1 rfl (fZ (zR (fH (lD ?_)))));exact qT (rt rfl) lv
  refine qJ (jo rfl (xU (qG h x) (xC 1 rfl ?_)));exact jg ls
 refine oO (xS 1 rfl ?_);exact qT (rt rfl) lv
def yR (c d:Op):Option Bool:= oZ (σ:=Bool) (if (c.arity==d.arity) then  xG (mV c.table d.table) λe=>some (.nx e) else  some (.nx false)) λf=>some f
theorem xKv {i j} (r) (p:yR i j=some r) {f h} (c) (hN:HN B c) (d:Bo B c (Pt 2 vU) f i) (e:Bo B c (Pt 2 vU) h j):CG B c 234 #[f,h] (.st (.bool r) λD=>D):=by
 unfold yR at p
 revert r
 refine vM func234 [(0,f),(1,h)] hN λr=>?_;refine xI (xW 1 rfl (qZ (λt=>.st [(4,.bool t)] []) ?_ (λ_=>?_)))
 ·
  refine jQ (zA 1 rfl (jqN d (cI d vU.f0 λ_ x=>kI x λ_=>zA 1 rfl (jqN e (cI e vU.f0 λ_ y=>kI y λ_=>zA 2 rfl (fD 14 (λ_=>?_) (λ_=>?_)))))))
  ·refine zA 1 rfl (jqN d (cI d vU.f1 λ_ z=>eZ z λ_ A=>zA 1 rfl (jqN e (cI e vU.f1 λ_ C=>eZ C λ_ E=>jB λF G=>(jqk (λH=>xBg F G _ aA (H.a A) (H.a E)) (zA 2 rfl ?_))))));refine nD (eD ?_);exact jf ls
  refine zA 11 rfl (nD (eD ?_));exact jf ls
 refine nH ?_;exact qT (rt rfl) lv
def tA (N:Nat) (e:Int) (c:Op) (f:Bool):Option Bool:= if f then oZ (σ:=Unit) (oM (λt (h:Int) s=>match s with | _=>xG (ix c.table 0) λi=>if (h != i) then some (.ret false) else some (.go ())) c.table 0 ()) λ_=>some true else oZ (σ:=Unit) (qM (λj s=>match s with | _=>xG (pD N e c.arity (j:Int)) λd=>xG (yR c (Op.mk d.arity d.table)) λp=>if p then some (.ret true) else some (.go ())) c.arity.toNat 0 ()) λ_=>some false
theorem xCf {e p i} (r) (I:tA N e p i=some r) {f} (j) (hN:HN B j) (A:xL e) (c:Bo B j (Pt 2 vU) f p):CG B j 163 #[xA e,f,.bool i] (.st (.bool r) λD=>D):=by
 unfold tA at I
 revert r
 refine vM func163 [(0,xA e),(1,f),(2,.bool i)] hN λr=>?_;refine xI (xK 1 rfl (xC 1 rfl (xT ?_ ?_)))
 ·
  refine xR (xC 1 rfl (qZ (λ_=>.st [] []) ?_ (λ_=>?_)))
  ·
   refine zK (jl (λt _=>.st [(7,xA (t:Int)),(1,f)] []) ls (λ_ _ _ K=>?_) (λt _ _ h L=>?_))
   ·have M:=oU K;refine xR (jA 2 rfl (jN c (aF c vU.f1 λ_ O=>aR O λ_ P=>jL P λ_=>xC 1 rfl (kJ M (xN ?_)))));exact jf ls
   refine xR (jA 2 rfl (jN c (aF c vU.f1 λ_ Q=>aR Q λ_ R=>jL R λx=>xC 1 rfl (kO (xX h) (xY ?_)))));have j1:=dS (Ah h) x;refine uV (jQ (zA 1 rfl (jqN c (cI c vU.f1 λ_ S=>eZ S λ_ T=>zA 1 rfl (lM T L λ_ U=>kI U λ_=>zA 1 rfl (jqN c ?_))))));refine cI c vU.f1 λ_ C=>eZ C λ_ W=>jB λz1 X=>(lM W X λ_ Y=>kI Y λ_=>zA 1 rfl (nD (eD (xT ?_ ?_))))
   ·refine xI (oY 1 rfl (fZ (zR (fH (a_RR ?_)))));exact qT (rt rfl) lv
   refine qJ (jo rfl (xU (qG h x) (xC 1 rfl ?_)));exact jg ls
  refine oO (oE 1 rfl ?_);exact qT (rt rfl) lv
 refine vT (xC 1 rfl (qZ (λ_=>.st [] []) ?_ (λ_=>?_)))
 ·
  refine zK (jc (λy _=>.st [(8,xA (y:Int)),(0,xA e),(1,f)] []) ls (λ_ _ _ d=>?_) (λ_ y _ d=>?_))
  ·have Z:=vD d;refine xR (jA 2 rfl (jN c (aF c vU.f0 λ_ E=>aP E λ_=>xC 1 rfl (kJ Z (xN ?_)))));exact jf ls
  refine xR (jA 2 rfl (jN c (aF c vU.f0 λ_ F=>aP F λz=>xC 1 rfl (kO (qP d) (xY (qE (jA 2 rfl ?_)))))));refine jN c (aF c vU.f0 λ_ G=>aP G λi3=>jo rfl (jB λz2 c2=>(jk (λH=>xBd z2 c2 _ aA A i3 (dT d z)) λv2 i4=>aK rfl (λ_=>?_))));refine zX (hv:=(λH=>oc rfl (oc (H.l 1 rfl).one on))) e3 (qW (jo rfl (jB λz3 c3=>(jk (λH=>xKv z3 c3 _ aA (H.a c) (vU.b (H.g 0 rfl).bk i4 (H.l 1 rfl))) (kD (xT ?_ ?_))))))
  ·refine xI (oY 1 rfl (fZ (zR (fH (lD ?_)))));exact qT (rt rfl) lv
  refine qJ (jo rfl (xU (vY d z) (xC 1 rfl (js [] rfl ?_))));exact jg ls
 refine oO (xS 1 rfl ?_);exact qT (rt rfl) lv
def bD (c:Int) (d:Op):Option Bool:= oZ (σ:=Unit) (qM (λe s=>match s with | _=>oZ (σ:=List Int) (qM (λp f=>xG (ap f ([(e:Int)])) λh=>some (.go h)) d.arity.toNat 0 []) λi=>xG (qV c d i) λj=>if (j != (e:Int)) then some (.ret false) else some (.go ())) c.toNat 0 ()) λ_=>some true
theorem sF {c x} (r) (E:bD c x=some r) {d} (p) (hN:HN B p) (j:xL c) (h:Bo B p (Pt 2 vU) d x):CG B p 164 #[xA c,d] (.st (.bool r) λD=>D):=by
 unfold bD at E
 revert r
 refine vM func164 [(0,xA c),(1,d)] hN λr=>?_;refine xI (xK 1 rfl (xC 1 rfl (qZ (λ_=>.st [] []) ?_ (λ_=>?_))))
 ·
  refine zK (jc (λi _=>.st [(5,xA (i:Int)),(0,xA c),(1,d)] []) ls (λ_ _ _ e=>?_) (λ_ i _ e=>?_))
  ·have F:=vD e;refine xR (xC 3 rfl (kJ F (xN ?_)));exact jf ls
  refine xR (xC 3 rfl (kO (qP e) (xY (qE (jR0 xF λQ=>xK 1 rfl (xC 1 rfl ?_))))));refine qZ (λG=>.v λy=>.st [(0,xA c),(1,d),(5,xA (i:Int)),(6,y)] [rl 1 xF 2 y G]) ?_ (λ_ _=>?_)
  ·
   refine zK ?_;refine jc (λz A=>.v λt=>.st [(7,xA (z:Int)),(0,xA c),(1,d),(5,xA (i:Int)),(6,t)] [rl 1 xF 2 t A]) ⟨_,ls⟩ (λ_ A _ f t=>?_) (λ_ z _ f _=>?_)
   ·have I:=vD f;refine xR (jA 2 rfl (jN h (aF h vU.f0 λ_ K=>aP K λ_=>xC 1 rfl (kJ I (xN ?_)))));exact jf ⟨_,ls⟩
   refine xR (jA 2 rfl (jN h (aF h vU.f0 λ_ L=>aP L λC=>xC 1 rfl (kO (qP f) (xY ?_)))));have j1:=dT f C;refine xAp (jA 2 rfl (lQ (λH=>Eo.int (dT e j)) λ_=>jB λR M=>(js [1,0] rfl (jPL M λS=>kZ 1 rfl (jo rfl (xU (vY f C) (jo rfl ?_)))))));refine kD ?_;exact jg ⟨_,ls⟩
  refine oO (jA 3 rfl (jB λN O=>(jk (λH=>kY N O _ aA j (H.a h) (H.l 0 rfl)) λP=>xC 2 rfl (xT ?_ ?_))))
  ·refine xI (oY 1 rfl (fZ (zR (fH (lD ?_)))));exact qT (rt rfl) lv
  refine qJ (jo rfl (xU (vY e j) (xC 1 rfl (js [] rfl ?_))));exact jg ls
 refine oO (xS 1 rfl ?_);exact qT (rt rfl) lv
def dG (c:List Int) (d:Int):Option Bool:= oZ (σ:=Unit) (oM (λf (e:Int) s=>match s with | _=>if (e==d) then some (.ret true) else some (.go ())) c 0 ()) λ_=>some false
theorem rT {i c} (r) (t:dG i c=some r) {d} (f) (hN:HN B f) (h:Bo B f (Sl 1 xF) d i) (C:xL c):CG B f 174 #[d,xA c] (.st (.bool r) λD=>D):=by
 unfold dG at t
 revert r
 refine vM func174 [(0,d),(1,xA c)] hN λr=>?_;refine xI (xK 1 rfl (xC 1 rfl (qZ (λ_=>.st [] []) ?_ (λ_=>?_))))
 ·
  refine zK (jl (λj _=>.st [(5,xA (j:Int)),(0,d),(1,xA c)] []) ls (λ_ _ _ x=>?_) (λj _ _ e y=>?_))
  ·have z:=oU x;refine xR (jA 2 rfl (jL h λ_=>xC 1 rfl (kJ z (xN ?_))));exact jf ls
  refine xR (jA 2 rfl (jL h λp=>xC 1 rfl (kO (xX e) (xY ?_))));have j1:=dS (Ah e) p;refine qE (jA 2 rfl (jI h y λ_ A=>aP A λ_=>xC 2 rfl (xT ?_ ?_)))
  ·refine xI (oY 1 rfl (fZ (zR (fH (lD ?_)))));exact qT (rt rfl) lv
  refine qJ (jo rfl (xU (qG e p) (xC 1 rfl ?_)));exact jg ls
 refine oO (xS 1 rfl ?_);exact qT (rt rfl) lv
def lO (N:Nat) (d:Int) (c:Op):Option Bool:= oZ (σ:=Unit) (oM (λe (f:Int) s=>match s with | _=>xG (vZ N d c.arity (e:Int)) λh=>xG (dG h f) λi=>if (!i) then some (.ret false) else some (.go ())) c.table 0 ()) λ_=>some true
theorem yQ {d i} (r) (x:lO N d i=some r) {e} (h) (hN:HN B h) (t:xL d) (c:Bo B h (Pt 2 vU) e i):CG B h 165 #[xA d,e] (.st (.bool r) λD=>D):=by
 unfold lO at x
 revert r
 refine vM func165 [(0,xA d),(1,e)] hN λr=>?_;refine xI (xK 1 rfl (xC 1 rfl (qZ (λ_=>.st [] []) ?_ (λ_=>?_))))
 ·
  refine zK (jl (λj _=>.st [(5,xA (j:Int)),(0,xA d),(1,e)] []) ls (λ_ _ _ y=>?_) (λj _ _ f z=>?_))
  ·have A:=oU y;refine xR (jA 2 rfl (jN c (aF c vU.f1 λ_ C=>aR C λ_ E=>jL E λ_=>xC 1 rfl (kJ A (xN ?_)))));exact jf ls
  refine xR (jA 2 rfl (jN c (aF c vU.f1 λ_ F=>aR F λ_ G=>jL G λp=>xC 1 rfl (kO (xX f) (xY (uV ?_))))));refine jB λI K=>(jB λL M=>(jD (zF [0,1] rfl (jvN 2 rfl c (iO 3 rfl c vU.f0 λ_ O=>aW 4 rfl O λP=>zF [5,7] rfl (jvN 8 rfl c (iO 9 rfl c vU.f1 λ_ Q=>rK 10 rfl Q (λ_ R=>?_))))))));refine zF [11] rfl (pQ 12 rfl R z λ_ S=>aW 13 rfl S λT=>jE 6 rfl (jk (λH=>bM I K _ aA t P (dS (Ah f) p)) λ_=>qK (jE 14 rfl (jk (λH=>rT L M _ aA (H.l 0 rfl) T) (qK (zF [15] rfl (iT ?_)))))));refine eD (xT ?_ ?_)
  ·refine xI (oY 1 rfl (fZ (zR (fH (lD ?_)))));exact qT (rt rfl) lv
  refine qJ (jo rfl (xU (qG f p) (xC 1 rfl (js [] rfl ?_))));exact jg ls
 refine oO (xS 1 rfl ?_);exact qT (rt rfl) lv
def aT (N:Nat) (i:Int) (e:Op):Option Bool:= oZ (σ:=Unit) (oM (λp (t:Int) s=>match s with | _=>xG (vZ N i e.arity (p:Int)) λf=>oZ (σ:=Int) (mL (λc=>xG (ck (c+1)) λd=>if (decide (d<e.arity)) then xG (zO f) λh=>xG (ix f d) λj=>xG (ix h c) λz=>xG (ix f c) λx=>xG (ix (h.set (c).toNat j) d) λA=>xG (qV i e ((h.set (c).toNat j).set (d).toNat x)) λy=>if (y != t) then some (.ret (.ret false)) else some (.go d) else some (.brk c)) N 0) λB=>some (.go ())) e.table 0 ()) λ_=>some true
theorem nG {d z} (r) (Q:aT N d z=some r) {e} (p) (hN:HN B p) (x:xL d) (c:Bo B p (Pt 2 vU) e z):CG B p 166 #[xA d,e] (.st (.bool r) λD=>D):=by
 unfold aT at Q
 revert r
 refine vM func166 [(0,xA d),(1,e)] hN λr=>?_;refine xI (xK 1 rfl (xC 1 rfl (qZ (λ_=>.st [] []) ?_ (λ_=>?_))))
 ·
  refine zK (jl (λi _=>.st [(5,xA (i:Int)),(0,xA d),(1,e)] []) ls (λ_ _ _ R=>?_) (λi _ _ j S=>?_))
  ·have T:=oU R;refine xR (jA 2 rfl (jN c (aF c vU.f1 λ_ U=>aR U λ_ W=>jL W λ_=>xC 1 rfl (kJ T (xN ?_)))));exact jf ls
  refine xR (jA 2 rfl (jN c (aF c vU.f1 λ_ X=>aR X λ_ Y=>jL Y λA=>xC 1 rfl (kO (xX j) (xY (qE ?_))))));refine jA 2 rfl (jN c (aF c vU.f0 λ_ Z=>aP Z λi2=>jo rfl (jB λC c1=>(jk (λH=>bM C c1 _ aA x i2 (dS (Ah j) A)) λE=>xM 1 rfl (xC 1 rfl ?_)))));refine qZ (λs1=>.fa (xL s1) <| .st [(0,xA d),(1,e),(5,xA (i:Int))] []) ?_ (λ_ _=>?_)
  ·
   refine zK ?_;refine jw (λt=>.fa (xL t) <| .st [(0,xA d),(1,e),(5,xA (i:Int)),(6,E),(7,xA t)] [rl 1 xF 2 E C]) ⟨xO,ls⟩ λ_ t i3=>xR (jo rfl (jB λz2 f=>(bN f (jo rfl (jN c (aF c vU.f0 λ_ h6=>aP h6 λ_=>xC 1 rfl ?_))))));refine xT ?_ ?_
   ·
    refine nK (jo rfl (jB λz3 c3=>(jk (λH=>eA z3 c3 _ aA (H.l 0 rfl)) λ_=>xM 1 rfl (jA 4 rfl (bN f (jB λz4 c4=>(js [1,0] rfl (cZ λ_ _ _ y g1 e1 h _=>?_))))))));have F:=g1.ld;refine jI F c4 λ_ h8=>aP h8 λi4=>jB λz5 G=>(jRl 0 G λ_ K=>jh (λH=>H.lw) (jS K (dL G) (λH=>Eo.int i4) rfl (jh (λH=>H.tl) (qW (jA 2 rfl (bN f (jA 2 rfl ?_)))))));refine jB λz6 c6=>(jI F c6 λ_ h9=>aP h9 λi5=>jB λz7 I=>(jRl 0 I λ_ L=>jh (λH=>H.lw) (jS L (dL I) (λH=>Eo.int i5) rfl (jh (λH=>H.tl) (yD (jQ (zA 3 rfl ?_)))))));refine jB λz8 c8=>(xRo (λH=>kY z8 c8 _ aA x (H.a (e1 c)) (H.l 0 rfl)) λ_=>zA 1 rfl (jqN c (cI c vU.f1 λ_ M=>eZ (s:=λH w l=>(y.trans (Sm.mono (H.q w l) h.2.2))) M λ_ O=>zA 1 rfl (lM O S λ_ P=>kI (s:=λH w l=>(y.trans (Sm.mono (H.q w l) h.2.2))) P λ_=>zA 1 rfl (nD ?_)))));refine eD (xT ?_ ?_)
    ·refine xI (oY 1 rfl (fZ (zR (fH (xFi (fZ (zR (fH (lD ?_)))))))));refine aI h ?_;exact qT (rt rfl) lv
    refine qJ (jo rfl (bN f (xC 1 rfl (js [] rfl (aI h ?_)))));exact jg ⟨(kA f),ls⟩
   refine nS (jbk (wJ (js [] rfl ?_)));exact jf ⟨i3,ls⟩
  refine aH (jo rfl (xU (qG j A) (xC 1 rfl ?_)));exact jg ls
 refine oO (xS 1 rfl ?_);exact qT (rt rfl) lv
def bZ (N:Nat) (c:Int) (e:Op):Option Bool:= xG (qD N c 3) λh=>oZ (σ:=Unit) (qM (λi s=>match s with | _=>xG (vZ N c 3 (i:Int)) λd=>xG (sl d 0 2) λj=>xG (ix d 2) λp=>xG (qV c e j) λt=>xG (qV c e ([t,p])) λx=>xG (ix d 0) λy=>xG (sl d 1 (d.length:Int)) λz=>xG (qV c e z) λA=>xG (qV c e ([y,A])) λf=>if (x != f) then some (.ret false) else some (.go ())) h.toNat 0 ()) λ_=>some true
theorem xAo {e y} (r) (M:bZ N e y=some r) {f} (t) (hN:HN B t) (c:xL e) (h:Bo B t (Pt 2 vU) f y):CG B t 167 #[xA e,f] (.st (.bool r) λD=>D):=by
 unfold bZ at M
 revert r
 refine vM func167 [(0,xA e),(1,f)] hN λr=>?_;refine xI (xK 1 rfl (xC 1 rfl (jB λz A=>(qZ (λ_=>.st [] []) ?_ (λ_=>?_)))))
 ·
  refine zK (jc (λC _=>.st [(5,xA (C:Int)),(0,xA e),(1,f)] []) ls (λ_ _ _ d=>?_) (λ_ C _ d=>?_))
  ·have O:=vD d;refine xR (jA 2 rfl (jk (λH=>zH z A _ aA c lL) λp=>xC 1 rfl (kJ O (xN ?_))));exact jf ls
  refine xR (jA 2 rfl (jk (λH=>zH z A _ aA c lL) λp=>xC 1 rfl (kO (qP d) (xY (qE (jA 2 rfl (jB λP Q=>(jk (λH=>bM P Q _ aA c lL (dT d p)) (λ_=>?_)))))))));refine xW 1 rfl (jB λz3 R=>(jB λS T=>(jB λE U=>(jB λW X=>(cZ λ_ _ _ _ Y i x _=>?_)))));have j:=Y.ld;refine jD (zF [0,1,2,3,4] rfl (jvC 5 rfl j R λ_ Z=>zF [7] rfl (pQ 8 rfl j T λ_ h3=>aW 9 rfl h3 λi1=>jE 6 rfl (jk (λH=>kY E U _ aA c (H.a (i h)) (H.a Z)) λG=>qK (jE 10 rfl ?_)))));refine jRI [E,S] (by simp only[Ai,Ap,Au,implies_true,and_true];exact⟨G,i1⟩) λ_=>qK (jE 11 rfl (jk (λH=>kY W X _ aA c (H.a (i h)) (H.l 0 rfl)) λa9=>qK (zF [12] rfl (iT (xMp (jB λz7 c7=>(jB λz8 c8=>(jB λF c9=>?_))))))));refine jB λI K=>(jD (zF [0,1,2] rfl (pQ 3 rfl j c7 λ_ h4=>aW 4 rfl h4 λi2=>zF [5,6,7] rfl (jvC 8 rfl j c8 λ_ h5=>jE 9 rfl (jk (λH=>kY F c9 _ aA c (H.a (i h)) (H.a h5)) λL=>qK (jE 10 rfl ?_))))));refine jRI [z7,F] (by simp only[Ai,Ap,Au,implies_true,and_true];exact⟨i2,L⟩) λ_=>qK (jE 11 rfl (jk (λH=>kY I K _ aA c (H.a (i h)) (H.l 0 rfl)) λaa=>qK (zF [12] rfl (iT (oO (xC 3 rfl (xT ?_ ?_)))))))
  ·refine xI (oY 1 rfl (fZ (zR (fH (lD (aI x ?_))))));exact qT (rt rfl) lv
  refine qJ (jo rfl (xU (vY d p) (xC 1 rfl (js [] rfl (aI x (js [] rfl ?_))))));exact jg ls
 refine oO (xS 1 rfl ?_);exact qT (rt rfl) lv
def eY (d:Int) (e:Op) (i j:Bool):Option Bool:= if (e.arity != 3) then some false else oZ (σ:=Unit) (qM (λc s=>match s with | _=>oZ (σ:=Unit) (qM (λf s=>match s with | _=>oZ (σ:=Int) (if j then some (.nx (f:Int)) else some (.nx (c:Int))) λh=>oZ (σ:=Bool) (xG (qV d e ([(c:Int),(c:Int),(f:Int)])) λp=>if (p != h) then  some (.nx true) else  xG (qV d e ([(f:Int),(c:Int),(c:Int)])) λt=>if (t != h) then  some (.nx true) else  if i then  xG (qV d e ([(c:Int),(f:Int),(c:Int)])) λx=>some (.nx (x != h)) else  some (.nx false)) λy=>if y then some (.ret (.ret false)) else some (.go ())) d.toNat 0 ()) λ_=>some (.go ())) d.toNat 0 ()) λ_=>some true
theorem rL {d A e f} (r) (C:eY d A e f=some r) {h} (y) (hN:HN B y) (i:xL d) (x:Bo B y (Pt 2 vU) h A):CG B y 168 #[xA d,h,.bool e,.bool f] (.st (.bool r) λD=>D):=by
 unfold eY at C
 revert r
 refine vM func168 [(0,xA d),(1,h),(2,.bool e),(3,.bool f)] hN λr=>?_;refine xI (xK 1 rfl (jo rfl (jN x (aF x vU.f0 λ_ E=>aP E λ_=>xC 1 rfl (xT ?_ ?_)))))
 ·refine xI (oE 1 rfl ?_);exact qT (rt rfl) lv
 refine vT (xC 1 rfl (qZ (λ_=>.st [] []) ?_ (λ_=>?_)))
 ·
  refine zK (jc (λc _=>.st [(9,xA (c:Int)),(0,xA d),(1,h),(2,.bool e),(3,.bool f)] []) ls (λ_ _ _ p=>?_) (λ_ c _ p=>?_))
  ·have F:=vD p;refine xR (xC 3 rfl (kJ F (xN ?_)));exact jf ls
  refine xR (xC 3 rfl (kO (qP p) (xY ?_)));have j1:=dT p i;refine qE (xC 1 rfl (qZ (λ_=>.st [(0,xA d),(1,h),(2,.bool e),(3,.bool f),(9,xA (c:Int))] []) ?_ (λ_=>?_)))
  ·
   refine zK (jc (λj _=>.st [(10,xA (j:Int)),(0,xA d),(1,h),(2,.bool e),(3,.bool f),(9,xA (c:Int))] []) ls (λ_ _ _ t=>?_) (λ_ j _ t=>?_))
   ·have G:=vD t;refine xR (xC 3 rfl (kJ G (xN ?_)));exact jf ls
   refine xR (xC 3 rfl (kO (qP t) (xY ?_)));have j2:=dT t i;refine qE (xK 2 rfl (xC 1 rfl (qZ (λz=>.fa (xL z) <| .st [(0,xA d),(1,h),(2,.bool e),(3,.bool f),(9,xA (c:Int)),(10,xA (j:Int)),(11,xA z)] []) ?_ (λz _=>?_))))
   ·
    refine xT ?_ ?_
    ·refine lP (xC 2 rfl ?_);exact jf ⟨j2,ls⟩
    refine xTx ?_;exact jf ⟨j1,ls⟩
   refine xMp (qZ (λI=>.st [(0,xA d),(1,h),(2,.bool e),(3,.bool f),(9,xA (c:Int)),(10,xA (j:Int)),(63,.bool I)] []) ?_ (λ_=>?_))
   ·
    refine lP (jA 5 rfl ?_);refine jRI [(c:Int),(c:Int),(j:Int)] (by simp only[Ai,Ap,Au,implies_true,and_true];exact⟨j1,j1,j2⟩) λ_=>jB λK L=>(jk (λH=>kY K L _ aA i (H.a x) (H.l 0 rfl)) λQ=>jA 3 rfl (fD 39 (λ_=>?_) (λ_=>?_)))
    ·refine xC 24 rfl (js [] rfl ?_);exact jf ls
    refine jA 5 rfl ?_;refine jRI [(j:Int),(c:Int),(c:Int)] (by simp only[Ai,Ap,Au,implies_true,and_true];exact⟨j2,j1,j1⟩) λ_=>jB λM N=>(jk (λH=>kY M N _ aA i (H.a x) (H.l 0 rfl)) λR=>jA 4 rfl (fD 50 (λ_=>?_) (λ_=>?_)))
    ·refine xC 13 rfl (js [] rfl ?_);exact jf ls
    refine jA 2 rfl (fD 52 (λ_=>?_) (λ_=>?_))
    ·refine jA 5 rfl ?_;refine jRI [(c:Int),(j:Int),(c:Int)] (by simp only[Ai,Ap,Au,implies_true,and_true];exact⟨j1,j2,j1⟩) λ_=>jB λO P=>(jk (λH=>kY O P _ aA i (H.a x) (H.l 0 rfl)) λS=>xC 4 rfl (js [] rfl ?_));exact jf ls
    refine xC 11 rfl (js [] rfl ?_);exact jf ls
   refine eD (xT ?_ ?_)
   ·refine xI (oY 1 rfl (fZ (zR (fH (xFi (fZ (zR (fH (lD ?_)))))))));exact qT (rt rfl) lv
   refine qJ (jo rfl (xU (vY t i) (xC 1 rfl ?_)));exact jg ls
  refine aH (jo rfl (xU (vY p i) (xC 1 rfl ?_)));exact jg ls
 refine oO (xS 1 rfl ?_);exact qT (rt rfl) lv
def aZ (N:Nat) (d:Int) (c:Op) (e:Int):Option Bool:= if (e==1) then xG (tA N d c false) λj=>some j else if (e==2) then xG (tA N d c true) λp=>some p else if (e==3) then xG (bD d c) λt=>some t else if (e==4) then xG (lO N d c) λx=>some x else if (e==5) then oZ (σ:=Bool) (if (c.arity==2) then  xG (aT N d c) λy=>some (.nx y) else  some (.nx false)) λz=>some z else if (e==6) then oZ (σ:=Bool) (if (c.arity==2) then  xG (aT N d c) λA=>if A then  xG (bD d c) λf=>if f then  xG (bZ N d c) λB=>some (.nx B) else  some (.nx false) else  some (.nx false) else  some (.nx false)) λC=>some C else if (e==7) then xG (eY d c true false) λD=>some D else if (e==8) then xG (eY d c true true) λE=>some E else if (e==9) then xG (eY d c false true) λh=>some h else xG (aT N d c) λi=>some i
theorem xBi {e j f} (r) (C:aZ N e j f=some r) {h} (i) (hN:HN B i) (d:xL e) (c:Bo B i (Pt 2 vU) h j) (a4:xL f):CG B i 106 #[xA e,h,xA f] (.st (.bool r) λD=>D):=by
 unfold aZ at C
 revert r
 refine vM func106 [(0,xA e),(1,h),(2,xA f)] hN λr=>?_;refine xI (xK 1 rfl (jo rfl (xJd (xC 2 rfl (xT ?_ ?_)))))
 ·refine xI (jA 2 rfl (jB λE F=>(jk (λH=>xCf E F _ aA d (H.a c)) (bA 1 rfl ?_))));exact qT (rt rfl) lv
 refine xI (xC 2 rfl (xT ?_ ?_))
 ·refine xI (jA 2 rfl (jB λG p=>(jk (λH=>xCf G p _ aA d (H.a c)) (bA 1 rfl ?_))));exact qT (rt rfl) lv
 refine xI (xC 2 rfl (xT ?_ ?_))
 ·refine xI (jA 2 rfl (jB λI K=>(jk (λH=>sF I K _ aA d (H.a c)) (bA 1 rfl ?_))));exact qT (rt rfl) lv
 refine xI (xC 2 rfl (xT ?_ ?_))
 ·refine xI (jA 2 rfl (jB λL M=>(jk (λH=>yQ L M _ aA d (H.a c)) (bA 1 rfl ?_))));exact qT (rt rfl) lv
 refine xI (xC 2 rfl (xT ?_ ?_))
 ·
  refine a_s (qZ (λO=>.st [(6,.bool O)] []) ?_ (λ_=>?_))
  ·
   refine lP (jo rfl (jN c (aF c vU.f0 λ_ P=>aP P λ_=>jA 2 rfl (fD 35 (λ_=>?_) (λ_=>?_)))))
   ·refine jA 2 rfl (jB λQ R=>(jk (λH=>nG Q R _ aA d (H.a c)) (xC 2 rfl ?_)));exact jf ls
   refine xC 5 rfl ?_;exact jf ls
  refine xLg ?_;exact qT (rt rfl) lv
 refine xI (xC 2 rfl (xT ?_ ?_))
 ·
  refine a_s (qZ (λS=>.st [(6,.bool S)] []) ?_ (λ_=>?_))
  ·
   refine lP (jo rfl (jN c (aF c vU.f0 λ_ T=>aP T λ_=>jA 2 rfl (fD 47 (λ_=>?_) (λ_=>?_)))))
   ·
    refine jA 2 rfl (jB λU W=>(jk (λH=>nG U W _ aA d (H.a c)) (jA 2 rfl (fD 52 (λ_=>?_) (λ_=>?_)))))
    ·
     refine jA 2 rfl (jB λt X=>(jk (λH=>sF t X _ aA d (H.a c)) (jA 2 rfl (fD 57 (λ_=>?_) (λ_=>?_)))))
     ·refine jA 2 rfl (jB λY Z=>(jk (λH=>xAo Y Z _ aA d (H.a c)) (xC 2 rfl ?_)));exact jf ls
     refine xC 5 rfl ?_;exact jf ls
    refine xC 10 rfl ?_;exact jf ls
   refine xC 15 rfl ?_;exact jf ls
  refine xLg ?_;exact qT (rt rfl) lv
 refine xI (xC 2 rfl (xT ?_ ?_))
 ·refine xI (jA 2 rfl (jB λz8 c8=>(jk (λH=>rL z8 c8 _ aA d (H.a c)) (bA 1 rfl ?_))));exact qT (rt rfl) lv
 refine xI (xC 2 rfl (xT ?_ ?_))
 ·refine xI (jA 2 rfl (jB λz9 c9=>(jk (λH=>rL z9 c9 _ aA d (H.a c)) (bA 1 rfl ?_))));exact qT (rt rfl) lv
 refine xI (xC 2 rfl (xT ?_ ?_))
 ·refine xI (jA 2 rfl (jB λx y=>(jk (λH=>rL x y _ aA d (H.a c)) (bA 1 rfl ?_))));exact qT (rt rfl) lv
 refine wB (jA 2 rfl (jB λz A=>(jk (λH=>nG z A _ aA d (H.a c)) (xS 1 rfl ?_))));exact qT (rt rfl) lv
end Go.Proofs.YtnjlbbfcngjhmaaGreat
