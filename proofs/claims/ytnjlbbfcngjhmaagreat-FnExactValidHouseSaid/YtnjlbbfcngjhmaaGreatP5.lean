import Derived.Test.YtnjlbbfcngjhmaaGreatP4
namespace Go.Proofs.YtnjlbbfcngjhmaaGreat
set_option linter.unusedVariables false
set_option linter.unusedSimpArgs false
open Go.Proofs.Tryz
set_option maxHeartbeats 1000000
set_option maxRecDepth 100000
open Go.RowKit
variable {B:Nat->Prop} {N:Nat}
def iD (N:Nat) (c:A6) (d:A7):Option (B1×Int):= xG (eE c.size) λx=>if (!x) then some ((B1.mk 0 0 ([])),4) else oZ (σ:=List A8) (oM (λL (f:Con) y=>xG (ix c.rels f.rel) λe=>xG (gI N c.size e) λz=>if (!z) then some (.ret ((B1.mk 0 0 ([])),4)) else xG (pC N c.size e.arity e.tuples) λA=>oZ (σ:=List A8) (oM (λM (h:A8) B=>xG (pN (0:Int) d.vars) λC=>oZ (σ:=List Int) (oM (λD (E:Int) i=>xG (ix f.scope (D:Int)) λj=>xG (ix i j) λF=>xG (ck (F+E)) λG=>xG (rm G c.size) λH=>some (.go (i.set (j).toNat H))) h.left 0 C) λI=>xG (ap B ([(A8.mk I h.right)])) λt=>some (.go t)) A.list 0 y) λK=>some (.go K)) d.cons 0 []) λp=>if (decide (24<(p.length:Int))) then some ((B1.mk 0 0 ([])),3) else some ((B1.mk c.size d.vars p),0)
theorem xGk {e h} (r) (hR:iD N e h=some r) {i j} (U) (hN:HN B U) (p:Bo B U (Pt 2 xB) i e) (t:Bo B U (Pt 2 xH) j h):CG B U 72 #[i,j] (.v λag=>.fa (xL r.1.prime) <| .fa (xL r.1.unknowns) <| .fa (xL r.2) <| .st (.tuple #[.agg #[xA r.1.prime,xA r.1.unknowns,ag],xA r.2]) λD=>rl 2 xJ 169 ag r.1.list::D):=by
 unfold iD at hR
 revert r
 refine vM func72 [(0,i),(1,j)] hN λr=>?_;refine xI (aK rfl λc=>xK 1 rfl (jo rfl (jN p (aF p xB.f0 λ_ h1=>aP h1 λi1=>jB λz1 c16=>(jk (λH=>sI z1 c16 _ aA i1) (jo rfl ?_))))));refine kD (xT ?_ ?_)
 ·refine xI (oV e5 (zX e3 (oE 1 rfl ?_)));exact nJ (λH=>(H.nl 2 xJ 169).s [0] rfl rfl) (dA 0 e2) (rt rfl) ⟨_,xO,xO,uC,lv⟩
 refine xY (jD ?_);refine jdp (f:=1) (ls:=#[true,true,true,true,true,true,true,true,true,true,true,false]) (.n λd=>.v λv2=>.fa (xL 0) <| .fa (xL 0) <| .fa (xL 0) <| .fa (xL 0) <| .fa (xL e.size) <| .fa (xL h.vars) <| .st [(0,i),(1,j),(4,oK c),(6,oK d),(30,(.agg #[xA e.size,xA h.vars,v2]))] [bx d [xA 0,xA 0,kW] 130,rl 2 xJ 169 v2 ([]),bx c [xA 0,xA 0,kW] 130]) (λd v2 _ _ _ _ i2 i3=>?_) (λH1=>?_)
 ·
  refine jE 11 rfl ?_;refine zX (hv:=(λH=>oc rfl (oc rfl (oc (H.l 1 rfl).one on)))) e3 (qK (iT (cF (xC 1 rfl ?_))));refine qZ (λs1=>.v λv3=>.st [(4,oK c),(6,oK d)] [bx d [xA e.size,xA h.vars,v3] 130,rl 2 xJ 169 v3 s1,bx c [xA 0,xA 0,kW] 130]) ?_ (λ_ v3=>?_)
  ·
   refine zK ?_;refine jl (λz W=>.v λI=>.st [(7,xA (z:Int)),(0,i),(1,j),(4,oK c),(6,oK d)] [bx d [xA e.size,xA h.vars,I] 130,rl 2 xJ 169 I W,bx c [xA 0,xA 0,kW] 130]) ⟨_,ls⟩ (λ_ W _ q1 I=>?_) (λz _ W Z y1 I=>?_)
   ·have l1:=oU q1;refine xR (jA 2 rfl (jN t (aF t xH.f1 λ_ h2=>aR h2 λ_ h3=>jL h3 λ_=>xC 1 rfl (kJ l1 (xN ?_)))));exact jf ⟨_,ls⟩
   refine xR (jA 2 rfl (jN t (aF t xH.f1 λ_ h4=>aR h4 λ_ h5=>jL h5 λi4=>xC 1 rfl (kO (xX Z) (xY ?_)))));have j1:=dS (Ah Z) i4;refine uV (jQ (zA 1 rfl (jqN p (cI p xB.f1 λ_ h6=>eZ h6 λ_ h7=>zA 1 rfl (jqN t (cI t xH.f1 λ_ h8=>eZ h8 λ_ h9=>zA 1 rfl ?_))))));refine lM h9 y1 λ_ h10=>cI h10 vS.f0 λ_ ba=>kI ba λ_=>jB λz2 c1=>(lM h7 c1 λ_ M=>zA 1 rfl (nD (cF (jo rfl (jN p (aF p xB.f0 (λ_ bb=>?_)))))));refine aP bb λi5=>jo rfl (jB λz3 c2=>(jk (λH=>xFs z3 c2 _ aA i5 (H.a M)) (xC 1 rfl (xT ?_ ?_))))
   ·refine xI (oV e5 (js [2,0,1] rfl (zX e3 (jo rfl (rO (fZ (zR (fH (lD ?_)))))))));exact nJ (λH=>(H.nl 2 xJ 169).s [0] rfl rfl) (dA 0 e2) (rt rfl) ⟨_,xO,xO,uC,lv⟩
   refine xY (jB λy c3=>(jD ?_));refine jdp (f:=1) (ls:=#[true,true,true,true,true,true,true,true,true,true,true,true,true,true,false]) (.n λA=>.v λP=>.fa (xL y.prime) <| .fa (xL y.unknowns) <| .st [(0,i),(1,j),(4,oK c),(6,oK d),(7,xA (z:Int)),(9,oK A),(73,(.agg #[xA y.prime,xA y.unknowns,P]))] [bx A [xA 0,xA 0,kW] 130,rl 2 xJ 169 P y.list,bx d [xA e.size,xA h.vars,I] 130,rl 2 xJ 169 I W,bx c [xA 0,xA 0,kW] 130]) (λA P _ _=>?_) (λH2=>?_)
   ·
    refine jE 14 rfl ?_;refine zX (hv:=(λH=>oc rfl (oc rfl (oc (H.l 1 rfl).one on)))) e3 (qK (iT (oO (xC 1 rfl ?_))));refine qZ (λs3=>.v λv6=>.st [(0,i),(1,j),(4,oK c),(6,oK d),(7,xA (z:Int))] [bx d [xA e.size,xA h.vars,v6] 130,rl 2 xJ 169 v6 s3,bx c [xA 0,xA 0,kW] 130]) ?_ (λs3 v6=>?_)
    ·
     refine zK ?_;refine jl (λK C=>.v λx=>.st [(10,xA (K:Int)),(0,i),(1,j),(4,oK c),(6,oK d),(7,xA (z:Int)),(9,oK A)] [bx A [xA y.prime,xA y.unknowns,P] 130,rl 2 xJ 169 P y.list,bx d [xA e.size,xA h.vars,x] 130,rl 2 xJ 169 x C,bx c [xA 0,xA 0,kW] 130]) ⟨_,ls⟩ (λ_ C _ q2 x=>?_) (λK L C a0 X x=>?_)
     ·have l2:=oU q2;refine xR (jo rfl (xZ e2 (jb 0 e3 (jLc (λH=>H.l 1 rfl) λ_=>xC 1 rfl (kJ l2 (xN (js [2,3,4] rfl ?_)))))));exact jf ⟨_,ls⟩
     refine xR (jo rfl (xZ e2 (jb 0 e3 (jLc (λH=>H.l 1 rfl) λi6=>xC 1 rfl (kO (xX a0) (xY ?_))))));have j2:=dS (Ah a0) i6;refine uV (jB λz5 c4=>(jh (λH=>H.mg) (cZ λw1 X1 N1 O g1 _ G _=>?_)));have Y:=g1.l.bk;have Q:=g1.r.ld;refine jD ?_;refine jdp (f:=1) (ls:=#[true,true,true,true,true,true,true,true,true,true,true,true,true,false]) (.n λE=>.v λv8=>.fa (xL L.right) <| .st [(0,i),(1,j),(4,oK c),(6,oK d),(7,xA (z:Int)),(9,oK A),(10,xA (K:Int)),(11,oK E),(92,(.agg #[v8,xA L.right]))] [bx E [kW,xA 0] 169,rl 1 xF 2 v8 z5,bx d [xA e.size,xA h.vars,x] 130,rl 2 xJ 169 x C,bx c [xA 0,xA 0,kW] 130]) (λE v8 i7=>?_) (λH3=>?_)
     ·
      refine jE 13 rfl ?_;refine zX (hv:=(λH=>oc (H.l 1 rfl).one (oc rfl on))) e3 (qK (iT (cF (xC 1 rfl ?_))));refine qZ (λs5=>.v λv9=>.st [(0,i),(1,j),(4,oK c),(6,oK d),(7,xA (z:Int)),(9,oK A),(10,xA (K:Int)),(11,oK E)] [bx E [v9,xA L.right] 169,rl 1 xF 2 v9 s5,bx d [xA e.size,xA h.vars,x] 130,rl 2 xJ 169 x C,bx c [xA 0,xA 0,kW] 130]) ?_ (λs5 _=>?_)
      ·
       refine zK ?_;refine jl (λk3 s6=>.v λS=>.st [(12,xA (k3:Int)),(0,i),(1,j),(4,oK c),(6,oK d),(7,xA (z:Int)),(9,oK A),(10,xA (K:Int)),(11,oK E)] [bx E [S,xA L.right] 169,rl 1 xF 2 S s6,bx d [xA e.size,xA h.vars,x] 130,rl 2 xJ 169 x C,bx c [xA 0,xA 0,kW] 130]) ⟨_,ls⟩ (λ_ s6 _ q3 S=>?_) (λk3 _ s6 a1 y3 S=>?_)
       ·have l3:=oU q3;refine xR (jo rfl (xZ e2 (jbK Y e2 (jo rfl (jI Q X λ_ bc=>aF bc xJ.f0 λ_ bd=>aR bd λ_ be=>jL be λ_=>xC 1 rfl ?_)))));refine kJ l3 (xN ?_);exact jf ⟨_,ls⟩
       refine xR (jo rfl (xZ e2 (jbK Y e2 (jo rfl (jI Q X λ_ bf=>aF bf xJ.f0 λ_ bg=>aR bg λ_ bh=>jL bh λi8=>xC 1 rfl ?_)))));refine kO (xX a1) (xY ?_);have j3:=dS (Ah a1) i8;refine qE (jo rfl (jN t (aF t xH.f1 λ_ bi=>aR (s:=λH=>(O.trans (Sm.mono H.sm G.2.2))) bi λ_ bj=>jo rfl (jI bj y1 λ_ bm=>aF bm vS.f1 λ_ bn=>aR (s:=λH=>(O.trans (Sm.mono H.sm G.2.2))) bn λ_ bp=>jo rfl (jB λz6 c5=>?_)))));refine jI bp c5 λ_ br=>aP (s:=λH=>(O.trans (Sm.mono H.sm G.2.2))) br λ_=>xC 1 rfl (jB λz7 c6=>(jB λz8 c7=>(jB λz9 c8=>(jh (λH=>H.mg) (cZ λ_ _ _ a2 g2 e1 T _=>?_)))));have K2:=g2.l.bk;refine jD (kB 0 rfl e2 (iG 1 rfl K2 e2 (zF [2] rfl (kB 3 rfl e2 (iG 4 rfl K2 e2 (zF [5] rfl (pQ 6 rfl g2.r.ld c6 λ_ bs=>aW 7 rfl bs λ_=>kB 8 rfl e2 (iG 9 rfl (Y.lf e1) e2 ?_))))))));refine zF [10] rfl (pQ 11 rfl Q X λ_ bt=>iO 12 rfl bt xJ.f0 λ_ bu=>rK (s:=λH w l=>(a2.trans (Sm.mono (H.v w l) T.2.2))) 13 rfl bu λ_ bv=>zF [14] rfl (pQ 15 rfl bv y3 λ_ bw=>aW (s:=λH w l=>(a2.trans (Sm.mono (H.v w l) T.2.2))) 16 rfl bw λ_=>jvz 17 rfl (λF H w l=>wH F rfl rfl c7) (zF [18] rfl (jvN 19 rfl p (iO 20 rfl p xB.f0 (λ_ c0=>?_))))));refine aW (s:=λH w l=>(O.trans (Sm.mono (a2.trans (Sm.mono (H.v w l) T.2.2)) G.2.2))) 21 rfl c0 λi9=>jvz 22 rfl (λF H w l=>xEk F rfl rfl c8) (jF9 23 rfl (aI T (jh (λH=>H.um) (jRl 1 c6 λ_ rp1=>kD (jF9 24 rfl (js [1,0,2,3,4] rfl (jh (λH=>H.lw) (jS rp1 (dL c6) (λH=>Eo.int (xGs c8 (kA c7) i9)) rfl ?_))))))));refine jh (λH=>H.tl) (kD (iT (aH (jo rfl (xU (qG a1 i8) (xC 1 rfl (js [1,0,2,3,4] rfl ?_)))))));exact jg ⟨_,ls⟩
      refine xMt (xZ e2 (jb 2 e3 (aG 0 e3 (js [1,0,2,3,4] rfl (jh (λH=>xJ.w i7 H) (uL (λH=>El.agg) λ_=>jB λdj c9=>(js [3,0,1,2,4] rfl (jPL c9 λdk=>xZ e2 ?_))))))));refine js [2,0,1,3] rfl (jW (hv:=(λH=>(H.l 1 rfl).one)) e3 (dQ (jo rfl (xU (qG a0 i6) (xC 1 rfl (js [0,1,3] rfl (aI G (jh (λH=>H.um) ?_))))))));exact jg ⟨_,ls⟩
     refine jdp (f:=2) (ls:=#[true,true,true,true,true,true,true,true,true,true,true,false,true,false]) (.n λb5=>.v λa3=>.fa (xL L.right) <| .st [(0,i),(1,j),(4,oK c),(6,oK d),(7,xA (z:Int)),(9,oK A),(10,xA (K:Int)),(11,oK b5),(85,a3),(91,xA L.right)] [bx b5 [kW,xA 0] 169,rl 1 xF 2 a3 z5,bx d [xA e.size,xA h.vars,x] 130,rl 2 xJ 169 x C,bx c [xA 0,xA 0,kW] 130]) (λb5 a3 i10=>?_) (λH4=>?_)
     ·refine jE 11 rfl ?_;refine oV (hone:=(λH=>oc (H.l 1 rfl).one (oc rfl on))) e5 (qK ?_);exact H3 ⟨_,_,i10,ls⟩
     refine zF [0] rfl (jvN 1 rfl t (iO 2 rfl t xH.f0 λ_ h36=>aW (s:=λH w l=>(O.trans (Sm.mono (H.v w l) G.2.2))) 3 rfl h36 λ_=>kB 5 rfl e2 (iG 6 rfl Y e2 (zF [7] rfl (pQ 8 rfl Q X λ_ h37=>iO 9 rfl h37 xJ.f1 λ_ h38=>aW 10 rfl h38 λa4=>eG (λH=>H) 4 12 rfl rfl ?_ ?_)))))
     ·
      refine jRM (R:=xF) (λw=>⟨rfl,by decide,rfl⟩) c4 λdm=>qK (eG (λH=>H) 11 12 rfl rfl ?_ ?_)
      ·refine oV (hone:=(λH=>oc (H.l 0 rfl).one (oc rfl on))) e5 (qK (jE 12 rfl (aK rfl λb6=>qK ?_)));exact H3 ⟨_,_,a4,ls⟩
      refine aK rfl λb7=>qK ?_;exact H4 ⟨_,_,a4,ls⟩
     refine aK rfl λb8=>qK (jE 4 rfl ?_);refine jRM (R:=xF) (λw=>⟨rfl,by decide,rfl⟩) c4 λdp=>qK (js [1,0,2,3,4] rfl ?_);exact H4 ⟨_,_,a4,ls⟩
    refine aH (jo rfl (xU (qG Z i4) (xC 1 rfl ?_)));exact jg ⟨_,ls⟩
   refine zF [0] rfl (jvN 1 rfl p (iO 2 rfl p xB.f0 λ_ h39=>aW 3 rfl h39 λah=>zF [4] rfl (jvN 5 rfl M (iO 6 rfl M oQ.f0 λ_ h40=>aW 7 rfl h40 λai=>zF [8] rfl (jvN 9 rfl M (iO 10 rfl M oQ.f1 (λ_ h41=>?_)))))));refine rK 11 rfl h41 λ_ aj=>eG (λH=>H) 12 13 rfl rfl ?_ ?_
   ·refine jk (λH=>xFc y c3 _ aA ah ai (H.a aj)) λdq i15 ca=>qK (jE 13 rfl (aK rfl λb9=>qK ?_));exact H2 ⟨_,_,i15,ca,ls⟩
   refine aK rfl λdr=>qK (jE 12 rfl (jk (λH=>xFc y c3 _ aA ah ai (H.a aj)) λds cb cc=>qK (js [1,0,2,3,4] rfl ?_)));exact H2 ⟨_,_,cb,cc,ls⟩
  refine cF (xZ e2 (jb 0 e3 (jLc (λH=>H.l 1 rfl) λ_=>xC 1 rfl (xT ?_ ?_))))
  ·refine xI (oV e5 (js [2,0,1] rfl (zX e3 (oE 1 rfl ?_))));exact nJ (λH=>(H.nl 2 xJ 169).s [0] rfl rfl) (dA 0 e2) (rt rfl) ⟨_,xO,xO,lL,lv⟩
  refine qR (aG 0 e3 (js [2,0,1] rfl ?_));refine zX (hv:=(λH=>oc rfl (oc rfl (oc (H.l 2 rfl).one on)))) e3 (xS 1 rfl ?_);exact nJ (λH=>H.s [2] rfl rfl) (dA 0 e2) (rt rfl) ⟨_,i2,i3,xO,lv⟩
 refine jdp (f:=2) (ls:=#[true,true,true,true,true,true,true,true,true,false,true,false]) (.n λa5=>.v λa6=>.fa (xL 0) <| .fa (xL 0) <| .fa (xL 0) <| .fa (xL 0) <| .fa (xL e.size) <| .fa (xL h.vars) <| .st [(0,i),(1,j),(4,oK c),(6,oK a5),(24,xA e.size),(28,xA h.vars),(29,a6)] [bx a5 [xA 0,xA 0,kW] 130,rl 2 xJ 169 a6 ([]),bx c [xA 0,xA 0,kW] 130]) (λa5 a6 cd ce cf cg ch ci=>?_) (λH5=>?_)
 ·refine jE 9 rfl ?_;refine oV (hone:=(λH=>oc rfl (oc rfl (oc (H.l 1 rfl).one on)))) e5 (qK ?_);exact H1 ⟨_,_,cd,ce,cf,cg,ch,ci,ls⟩
 refine zF [0] rfl (jvN 1 rfl p (iO 2 rfl p xB.f0 λ_ cj=>aW 3 rfl cj λa7=>zF [4] rfl (jvN 5 rfl t (iO 6 rfl t xH.f0 λ_ cm=>aW 7 rfl cm λa8=>eG (λH=>H) 8 10 rfl rfl ?_ ?_))))
 ·
  refine jR0 xJ λdu=>qK (eG (λH=>H) 9 10 rfl rfl ?_ ?_)
  ·refine oV (hone:=(λH=>oc rfl (oc rfl (oc (H.l 0 rfl).one on)))) e5 (qK (jE 10 rfl (aK rfl λdw=>qK ?_)));exact H1 ⟨_,_,xO,xO,xO,xO,a7,a8,ls⟩
  refine aK rfl λdx=>qK ?_;exact H5 ⟨_,_,xO,xO,xO,xO,a7,a8,ls⟩
 refine aK rfl λdy=>qK (jE 8 rfl (jR0 xJ λdz=>qK (js [1,0,2] rfl ?_)));exact H5 ⟨_,_,xO,xO,xO,xO,a7,a8,ls⟩
def jY (c:List Int):Option Int:= oZ (σ:=Unit) (oM (λd (e:Int) s=>match s with | _=>if (e != 0) then some (.ret ((d:Int))) else some (.go ())) c 0 ()) λ_=>some ((-1))
theorem xHv {h} (r) (p:jY h=some r) {c} (e) (hN:HN B e) (f:Bo B e (Sl 1 xF) c h):CG B e 121 #[c] (.fa (xL r) <| .st (xA r) λD=>D):=by
 unfold jY at p
 revert r
 refine vM func121 [(0,c)] hN λr=>?_;refine xI (xK 1 rfl (xC 1 rfl (qZ (λ_=>.st [] []) ?_ (λ_=>?_))))
 ·
  refine zK (jl (λi _=>.st [(3,xA (i:Int)),(0,c)] []) ls (λ_ _ _ t=>?_) (λi _ _ d x=>?_))
  ·have y:=oU t;refine xR (jA 2 rfl (jL f λ_=>xC 1 rfl (kJ y (xN ?_))));exact jf ls
  refine xR (jA 2 rfl (jL f λj=>xC 1 rfl (kO (xX d) (xY (qE (jA 2 rfl (jI f x λ_ z=>aP z (λ_=>?_))))))));refine xC 1 rfl (xT ?_ ?_)
  ·refine xI (oY 2 rfl (fZ (zR (fH (lD ?_)))));exact qT (rt rfl) ⟨(dS (Ah d) j),lv⟩
  refine qJ (jo rfl (xU (qG d j) (xC 1 rfl ?_)));exact jg ls
 refine oO (xS 1 rfl ?_);exact qT (rt rfl) ⟨bC,lv⟩
def eQ (c:B1):Option ((List Int)×Int):= xG (rM (B1.mk c.prime c.unknowns c.list)) λi=>if (!i) then some ([],1) else xG (dE (B1.mk c.prime c.unknowns c.list)) λd=>xG (cW d.1 d.2) λp=>if (decide (0<=p)) then some ([],6) else xG (pN (0:Int) c.unknowns) λj=>oZ (σ:=List Int) (qM (λt e=>xG (ix d.1 (t:Int)) λf=>xG (jY f.left) λh=>xG (ix e h) λy=>some (.go (e.set (h).toNat f.right))) d.2.toNat 0 j) λx=>some (x,0)
theorem xDh {x} (r) (N:eQ x=some r) {e} (f) (hN:HN B f) (O:Bo B f (qS 3 oR) e x):CG B f 73 #[e] (.v λt=>.fa (xL r.2) <| .st (.tuple #[t,xA r.2]) λD=>rl 1 xF 2 t r.1::D):=by
 unfold eQ at N
 revert r
 refine vM func73 [(0,e)] hN λr=>?_;refine xI ?_;obtain⟨v1,rfl,y,z,A⟩:=oR.o O;refine jX e2 λ_=>xK 2 rfl (jB λK P=>(jk (λH=>xEn K P _ aA (oR.b (H.g 0 rfl).bk y z (H.a A))) (xC 1 rfl (xT ?_ ?_))))
 ·refine xI (jR0 xF λv2=>oE 2 rfl (js [0] rfl ?_));exact j2 (rt rfl) (rt rfl) ⟨_,zL,lv⟩
 refine qR (jB λh Q=>(jk (λH=>rP h Q _ aA (oR.b (H.g 0 rfl).bk y z (H.a A))) λC i=>xK 5 rfl (jA 2 rfl (jB λS T=>(jk (λH=>sN S T _ aA (H.l 0 rfl) i) λa7=>xC 1 rfl (xT ?_ ?_))))))
 ·refine xI (jR0 xF λv4=>oE 2 rfl (js [0] rfl ?_));exact j2 (rt rfl) (rt rfl) ⟨_,sS,lv⟩
 refine qR (xZ e2 (jb 1 e3 (jB λa8 U=>?_)));refine jRM (R:=xF) (λw=>⟨rfl,by decide,rfl⟩) U λv5=>xK 1 rfl (xC 1 rfl (qZ (λW=>.v λj=>.st [(6,j)] [rl 1 xF 2 j W]) ?_ (λ_ j=>?_)))
 ·
  refine zK (js [0,1] rfl ?_);refine jc (λE p=>.v λd=>.st [(7,xA (E:Int)),(4,C),(5,xA h.2),(6,d)] [rl 1 xF 2 d p,rl 3 qC 177 C h.1]) ⟨_,ls⟩ (λ_ p _ c d=>?_) (λ_ E p c d=>?_)
  ·have X:=vD c;refine xR (xC 3 rfl (kJ X (xN (js [0] rfl ?_))));exact jf ⟨_,ls⟩
  refine xR (xC 3 rfl (kO (qP c) (xY ?_)));have j1:=dT c i;refine zK (jB λz3 F=>(jB λY Z=>(jB λz5 G=>(js [1,0] rfl (cZ λ_ _ _ _ g1 _ L _=>?_)))));have I:=g1.ld;refine jD (zF [0,1,2] rfl (pQ 3 rfl I F λ_ h3=>iO 4 rfl h3 qC.f0 λ_ h4=>rK 5 rfl h4 λ_ h5=>zF [7,8] rfl (pQ 9 rfl I F λ_ h6=>iO 10 rfl h6 qC.f1 λ_ h7=>aW 11 rfl h7 λi4=>jE 6 rfl (jk (λH=>xHv Y Z _ aA (H.a h5)) (λa9=>?_)))));refine qK (jE 12 rfl (jRl 0 G λ_ M=>qK (jE 13 rfl (jh (λH=>H.lw) (jS M (dL G) (λH=>Eo.int i4) rfl (jh (λH=>H.tl) (qK (iT (aH ?_)))))))));refine jo rfl (xU (vY c i) (xC 1 rfl (aI L (js [1,0] rfl ?_))));exact jg ⟨_,ls⟩
 refine oO (xS 3 rfl ?_);exact j2 (rt rfl) (rt rfl) ⟨_,xO,lv⟩
def cN (N:Nat) (d:A6) (e:A7):Option (B0×Int):= xG (iS (A6.mk d.size d.rels) (A7.mk e.vars e.cons)) λh=>if (!h) then some ((B0.mk 0 ([]) ([]) ([]) ([])),1) else xG (iD N (A6.mk d.size d.rels) (A7.mk e.vars e.cons)) λc=>if (c.2 != 0) then some ((B0.mk 0 ([]) ([]) ([]) ([])),c.2) else xG (eQ (B1.mk c.1.prime c.1.unknowns c.1.list)) λf=>if (f.2==0) then some ((B0.mk 0 f.1 ([]) ([]) ([])),0) else xG (fQ (B1.mk c.1.prime c.1.unknowns c.1.list)) λi=>some ((B0.mk 3 ([]) ([]) ([]) i.1),0)
theorem yE {i j} (r) (C:cN N i j=some r) {d e} (c) (hN:HN B c) (E:Bo B c (qS 2 xB) d i) (F:Bo B c (qS 2 xH) e j):CG B c 38 #[d,e] (.v λf=>.v λh=>.fa (xL r.1.kind) <| .fa (xL r.2) <| .st (.tuple #[.agg #[xA r.1.kind,f,kW,kW,h],xA r.2]) λD=>rl 1 xF 2 f r.1.values::ro B (V:=(Sl 1 xF)) h r.1.numbers::D):=by
 unfold cN at C
 revert r
 refine vM func38 [(0,d),(1,e)] hN λr=>?_;refine xI ?_;obtain⟨U,rfl,p,t⟩:=xB.o E;refine jX e2 (λ_=>?_);obtain⟨T,rfl,x,y⟩:=xH.o F;refine jX e2 λ_=>aK rfl λ_=>xK 1 rfl (jB λG I=>(jk (λH=>sV G I _ aA (xB.b (H.g 2 rfl).bk p (H.a t)) (xH.b (H.g 1 rfl).bk x (H.a y))) (xC 1 rfl (xT ?_ ?_))))
 ·refine xI (oV e5 (zX e3 (oE 1 rfl (js [0] rfl (jh (λH=>H.rob (Bo.snil (sz:=1) (R:=xF))) ?_)))));exact nJ (λH=>(H.nl 1 xF 2).s [0,1] rfl rfl) (dA 1 e2) (rt rfl) ⟨_,_,xO,zL,lv⟩
 refine qR (jB λK L=>(jk (λH=>xGk K L _ aA (xB.b (H.g 2 rfl).bk p (H.a t)) (xH.b (H.g 1 rfl).bk x (H.a y))) λW z A M=>jA 3 rfl (aK rfl (λ_=>?_))));refine zX (hv:=(λH=>oc rfl (oc rfl (oc (H.l 1 rfl).one on)))) e3 (xK 1 rfl (xC 2 rfl (xT ?_ ?_)))
 ·refine xI (oV e5 (jo rfl (js [2,0,1,3,4] rfl (zX e3 (oE 1 rfl (js [0] rfl (jh (λH=>H.rob (Bo.snil (sz:=1) (R:=xF))) ?_)))))));exact nJ (λH=>(H.nl 1 xF 2).s [0,1] rfl rfl) (dA 1 e2) (rt rfl) ⟨_,_,xO,M,lv⟩
 refine qR (aG 0 e3 (jB λO P=>?_));refine jk (λH=>xDh O P _ aA (oR.m z A (H.l 1 rfl))) λX _=>xK 5 rfl (xC 2 rfl (xT ?_ ?_))
 ·refine xI (jo rfl ?_);refine oV (hone:=(λH=>oc rfl (oc (H.l 0 rfl).one on))) e5 (js [3,0,1,2,4,5] rfl ?_);refine zX (hv:=(λH=>oc rfl (oc (H.l 1 rfl).one (oc rfl (oc rfl (oc rfl on)))))) e3 (oE 1 rfl (js [0,1] rfl (jh (λH=>H.rob (Bo.snil (sz:=1) (R:=xF))) ?_)));exact nJ (λH=>H.s [2,0] rfl rfl) (dA 1 e2) (rt rfl) ⟨_,_,xO,xO,lv⟩
 refine qR (aG 1 e3 (jB λQ S=>?_));refine jk (λH=>xCs Q S _ aA (oR.m z A (H.l 2 rfl))) λY _=>jh (λH=>H.rok) (xM 5 rfl (jo rfl ?_));refine oV (hone:=(λH=>oc rfl (oc (H.ro 0 rfl).one on))) e5 (js [4,0,1,2,3,5,6] rfl ?_);refine zX (hv:=(λH=>oc rfl (oc rfl (oc rfl (oc rfl (oc (H.ro 1 rfl).one on)))))) e3 (xS 1 rfl (js [0,1] rfl (js [1,0] rfl ?_)));exact nJ (λH=>(H.nl 1 xF 2).s [0,1] rfl rfl) (dA 1 e2) (rt rfl) ⟨_,_,lL,xO,lv⟩
def mH (N:Nat) (c:A6) (e:A7):Option (Int×B0×Int):= xG (iS (A6.mk c.size c.rels) (A7.mk e.vars e.cons)) λt=>if (!t) then some (0,(B0.mk 0 ([]) ([]) ([]) ([])),1) else xG (mK N (A6.mk c.size c.rels)) λd=>if (d.2.2 != 0) then some (0,(B0.mk 0 ([]) ([]) ([]) ([])),d.2.2) else oZ (σ:=Int×Int×(List Int)×(List B3)×(List B2)×(List Int)) (if (d.1==1) then xG (ix d.2.1.table 0) λx=>xG (bF N (A6.mk c.size c.rels) (A7.mk e.vars e.cons) x) λj=>some (.nx (j.2,j.1.kind,j.1.values,[],[],[])) else if (d.1==2) then xG (bJ N (A6.mk c.size c.rels) (A7.mk e.vars e.cons) (Op.mk d.2.1.arity d.2.1.table)) λh=>some (.nx (h.2,h.1.kind,h.1.values,h.1.arcs,[],[])) else if (d.1==3) then xG (dK N (A6.mk c.size c.rels) (A7.mk e.vars e.cons) (Op.mk d.2.1.arity d.2.1.table)) λf=>some (.nx (f.2,f.1.kind,f.1.values,f.1.arcs,f.1.pairs,[])) else xG (cN N (A6.mk c.size c.rels) (A7.mk e.vars e.cons)) λi=>some (.nx (i.2,i.1.kind,i.1.values,[],[],i.1.numbers))) λ(p,y,z,A,B,C)=>if (p != 0) then some (0,(B0.mk 0 ([]) ([]) ([]) ([])),p) else some (d.1,(B0.mk y z A B C),0)
theorem yC {K L} (r) (hR:mH N K L=some r) {j p} (h) (hN:HN B h) (A0:Bo B h (qS 2 xB) j K) (A1:Bo B h (qS 2 xH) p L):CG B h 21 #[j,p] (.v λE=>.v λF=>.v λG=>.v λI=>.fa (xL r.1) <| .fa (xL r.2.1.kind) <| .fa (xL r.2.2) <| .st (.tuple #[xA r.1,.agg #[xA r.2.1.kind,E,F,G,I],xA r.2.2]) λD=>rl 1 xF 2 E r.2.1.values::rl 3 oD 225 F r.2.1.arcs::rl 3 xP 165 G r.2.1.pairs::ro B (V:=(Sl 1 xF)) I r.2.1.numbers::D):=by
 unfold mH at hR
 revert r
 refine vM func21 [(0,j),(1,p)] hN λr=>?_;refine xI ?_;obtain⟨v2,rfl,c,d⟩:=xB.o A0;refine jX e2 (λ_=>?_);obtain⟨ax,rfl,e,f⟩:=xH.o A1;refine jX e2 λ_=>jo rfl (aK rfl λM=>xK 1 rfl (jB λz1 c1=>(jk (λH=>sV z1 c1 _ aA (xB.b (H.g 2 rfl).bk c (H.a d)) (xH.b (H.g 1 rfl).bk e (H.a f))) (xC 1 rfl (xT ?_ ?_)))))
 ·refine xI (oV e5 (jo rfl (zX e3 (oE 1 rfl (js [0] rfl (jh (λH=>H.rob (Bo.snil (sz:=1) (R:=xF))) ?_))))));exact j3m (λH=>(((H.nl 1 xF 2).nl 3 oD 225).nl 3 xP 165).s [2,1,0,3] rfl rfl) (rt rfl) (dA 1 e2) (rt rfl) ⟨_,_,_,_,xO,xO,zL,lv⟩
 refine qR (jB λO c2=>(jk (λH=>xGd O c2 _ aA (xB.b (H.g 2 rfl).bk c (H.a d))) λv3 i3 P i5=>jA 4 rfl (aK rfl λ_=>jo rfl ?_)));refine zX (hv:=(λH=>oc rfl (oc (H.l 1 rfl).one on))) e3 (xK 1 rfl (xC 2 rfl (xT ?_ ?_)))
 ·refine xI (oV e5 (jA 2 rfl (js [2,0,1,3,4] rfl (zX e3 (oE 1 rfl (js [0] rfl (jh (λH=>H.rob (Bo.snil (sz:=1) (R:=xF))) ?_)))))));exact j3m (λH=>(((H.nl 1 xF 2).nl 3 oD 225).nl 3 xP 165).s [2,1,0,3] rfl rfl) (rt rfl) (dA 1 e2) (rt rfl) ⟨_,_,_,_,xO,xO,i5,lv⟩
 refine qR (oV e5 (aK rfl λQ=>zX e3 (dZ (xC 1 rfl ?_))));refine qZ (λ(t,x,S,T,U,W)=>.v λy=>.v λz=>.v λA=>.v λC=>.fa (xL t) <| .fa (xL x) <| .st [(5,oK M),(7,xA O.1),(9,xA t),(10,oK Q)] [ro B (V:=(Sl 1 xF)) C W,rl 3 xP 165 A U,rl 3 oD 225 z T,rl 1 xF 2 y S,bx Q [xA x,y,z,A,C] 62,bx M [xA 0,kW,kW,kW,kW] 62]) ?_ (λ(t,x,S,T,U,W) y z A C i6 i7=>?_)
 ·
  refine qE (xC 2 rfl (xT ?_ ?_))
  ·refine jB λz3 c3=>(jB λz4 c4=>(js [1,2,4,5,0,3] rfl (jh (λH=>H.mg) (jh (λH=>H.mg) (jh (λH=>H.mg) (cZ λ_ _ _ _ i X Y _=>(jD (rY 0 rfl i.r.bk e2 (rY 1 rfl i.l.r.bk e2 (kB 2 rfl e2 ?_))))))))));refine iG 3 rfl i.l.l.l.bk e2 (pQ 4 rfl i.l.l.r.ld c3 λ_ h3=>aW 5 rfl h3 λi8=>jE 6 rfl ?_);refine jk (λH=>yP z4 c4 _ aA (xB.m c (H.a (X d))) (xH.m e (H.a (X f))) i8) λv8 i9 Z=>qK (zF [7,8,9] rfl (jE 10 rfl (js [1,0,2] rfl ?_)));refine zX (hv:=(λH=>oc rfl (oc (H.l 1 rfl).one (oc rfl (oc rfl (oc rfl on)))))) e3 (qK (zF [11] rfl (iT (oAj (aI Y (jh (λH=>H.um) (jh (λH=>H.um) (jh (λH=>H.um) (jh (λH=>H.nl 3 oD 225) (jh (λH=>H.nl 3 xP 165) ?_))))))))));refine jh (λH=>H.nl 1 xF 2) (jh (λH=>H.lw) (jh (λH=>H.rwo) (jh (λH=>H.rok) (js [0,1,2,8,7,9] rfl ?_))));exact jf ⟨_,_,_,_,Z,i9,ls⟩
  refine xI (xC 2 rfl (xT ?_ ?_))
  ·refine lP (aG 5 e3 (aG 4 e3 (aG 1 e3 (jB λz5 c5=>?_))));refine jk (λH=>uS z5 c5 _ aA (xB.m c (H.a d)) (xH.m e (H.a f)) (vU.m P (H.l 2 rfl))) λv9 ay a0 a1=>jA 3 rfl (js [2,0,1,3,4,5,6,7] rfl ?_);refine zX (hv:=(λH=>oc rfl (oc (H.l 1 rfl).one (oc (H.l 2 rfl).one (oc rfl (oc rfl on)))))) e3 (jo rfl (xNc (jh (λH=>H.nl 3 xP 165) (jh (λH=>H.nl 1 xF 2) (jh (λH=>H.lw) (jh (λH=>H.rwo) (jh (λH=>H.rok) (js [0,1,4,3,2,7] rfl ?_))))))));exact jf ⟨_,_,_,_,a1,a0,ls⟩
  refine xI (xC 2 rfl (xT ?_ ?_))
  ·refine lP (aG 5 e3 (aG 4 e3 (aG 1 e3 (jB λz6 c6=>?_))));refine jk (λH=>yM z6 c6 _ aA (xB.m c (H.a d)) (xH.m e (H.a f)) (vU.m P (H.l 2 rfl))) λaz b0 b1 a2 a3=>jA 3 rfl (js [3,0,1,2,4,5,6,7,8] rfl ?_);refine zX (hv:=(λH=>oc rfl (oc (H.l 1 rfl).one (oc (H.l 2 rfl).one (oc (H.l 3 rfl).one (oc rfl on)))))) e3 (jo rfl (xNc (jh (λH=>H.nl 1 xF 2) (jh (λH=>H.lw) (jh (λH=>H.rwo) (jh (λH=>H.rok) (js [0,4,3,2,1,7] rfl ?_)))))));exact jf ⟨_,_,_,_,a3,a2,ls⟩
  refine lP (aG 5 e3 (aG 4 e3 (jB λz7 c7=>?_)));refine jk (λH=>yE z7 c7 _ H.hN (xB.m c (H.u d)) (xH.m e (H.u f))) λb2 b3 a4 a5=>jA 3 rfl (js [2,0,1,3,4,5,6,7] rfl ?_);refine zX (hv:=(λH=>oc rfl (oc (H.l 1 rfl).one (oc rfl (oc rfl (oc (H.ro 2 rfl).one on)))))) e3 (jo rfl (xNc (jh (λH=>H.nl 3 oD 225) (jh (λH=>H.nl 3 xP 165) (js [4,0,1,3,2,7] rfl ?_)))));exact jf ⟨_,_,_,_,a5,a4,ls⟩
 refine cF (xC 2 rfl (xT ?_ ?_))
 ·refine xI (oV e5 (jA 2 rfl (js [5,0,1,2,3,4] rfl (zX e3 (oE 1 rfl (js [0] rfl (jh (λH=>H.rob (Bo.snil (sz:=1) (R:=xF))) ?_)))))));exact j3m (λH=>(((H.nl 1 xF 2).nl 3 oD 225).nl 3 xP 165).s [2,1,0,3] rfl rfl) (rt rfl) (dA 1 e2) (rt rfl) ⟨_,_,_,_,xO,xO,i6,lv⟩
 refine xY (js [4,0,1,2,3,5] rfl (cZ λ_ _ _ _ g2 _ a6 _=>(jD (zF [0] rfl (rY 1 rfl g2.bk e2 (zF [2] rfl (jE 3 rfl (js [4,0,1,2,3] rfl ?_))))))));refine zX (hv:=(λH=>oc rfl (oc (H.l 4 rfl).one (oc (H.l 3 rfl).one (oc (H.l 2 rfl).one (oc (H.ro 1 rfl).one on)))))) e3 (qK (zF [4] rfl (iT (nH (aI a6 (js [2,0,1,3,4,5] rfl ?_))))));exact j3m (λH=>H.s [5,4,3,0] rfl rfl) (rt rfl) (dA 2 e2) (rt rfl) ⟨_,_,_,_,i3,i7,xO,lv⟩
def cP (N:Nat) (d:B6):Option ((List B0)×Bool):= oZ (σ:=Bool) (xG (aO d.template) λf=>if (!f) then  some (.nx true) else  xG (zZ (d.jobs.length:Int) 1 4) λh=>if (!h) then  some (.nx true) else  xG (zZ d.clerks 1 3) λi=>some (.nx (!i))) λe=>if e then some ([],false) else oZ (σ:=List B0) (oM (λy (j:A7) p=>xG (mH N d.template j) λc=>if (c.2.2 != 0) then some (.ret ([],false)) else xG (ap p ([(B0.mk c.2.1.kind c.2.1.values c.2.1.arcs c.2.1.pairs c.2.1.numbers)])) λt=>some (.go t)) d.jobs 0 []) λx=>some (x,true)
theorem xEi {K} (r) (W:cP N K=some r) {h} (t) (hN:HN B t) (c:Bo B t (Pt 4 vP) h K):CG B t 11 #[h] (.v λF=>.st (.tuple #[F,.bool r.2]) λD=>rw B 5 kM 62 F r.1::D):=by
 unfold cP at W
 revert r
 refine vM func11 [(0,h)] hN λr=>?_;refine xI (jA 2 rfl (nE (qZ (λQ=>.st [(0,h),(30,.bool Q)] []) ?_ (λ_=>?_))))
 ·
  refine lP (jo rfl (jN c (jF (s':=2) c vP.f0 λ_ X=>jB λY Z=>(jk (λH=>pE Y Z _ aA (H.a X)) (jA 2 rfl (fD 14 (λ_=>?_) (λ_=>?_)))))))
  ·refine xC 16 rfl ?_;exact jf ls
  refine jo rfl (jN c (aF c vP.f1 λ_ h2=>aR h2 λ_ h3=>jL h3 λi1=>jB λz2 c2=>(jk (λH=>kH z2 c2 _ aA i1 zL uC) (jA 3 rfl (fD 23 (λ_=>?_) (λ_=>?_))))))
  ·refine xC 7 rfl ?_;exact jf ls
  refine jo rfl (jN c (aF c vP.f2 λ_ h4=>aP h4 λi2=>jB λz3 c3=>(jk (λH=>kH z3 c3 _ aA i2 zL lL) (xC 2 rfl ?_))));exact jf ls
 refine eD (xT ?_ ?_)
 ·refine xI (jR0 kM λv1=>oE 2 rfl (jh (λH=>H.lw) (jh (λH=>H.wk) ?_)));exact j2 (rt rfl) (rt rfl) ⟨_,lv⟩
 refine qR (jR0 kM λv2=>xK 1 rfl (xC 1 rfl (qZ (λs1=>.v λx=>.st [(4,x)] [rw B 5 kM 62 x s1]) ?_ (λ_ x=>?_))))
 ·
  refine zK (jh (λH=>H.lw) (jh (λH=>H.wk) ?_));refine jl (λy j=>.v λi=>.st [(5,xA (y:Int)),(0,h),(4,i)] [rw B 5 kM 62 i j]) ⟨_,ls⟩ (λ_ j _ q1 i=>?_) (λy _ j p y1 i=>?_)
  ·have l1:=oU q1;refine xR (jA 2 rfl (jN c (aF c vP.f1 λ_ h5=>aR h5 λ_ h6=>jL h6 λ_=>xC 1 rfl (kJ l1 (xN ?_)))));exact jf ⟨_,ls⟩
  refine xR (jA 2 rfl (jN c (aF c vP.f1 λ_ h7=>aR h7 λ_ h8=>jL h8 λL=>xC 1 rfl (kO (xX p) (xY ?_)))));have j1:=dS (Ah p) L;refine uV (jB λd M=>(jD ?_));refine jdp (f:=3) (ls:=#[true,true,true,true,true,true,true,true,true,true,true,true,true,true,true,true,true,false,false,false]) (.n λO=>.v λz=>.v λA=>.v λC=>.v λE=>.fa (xL d.1) <| .fa (xL d.2.1.kind) <| .fa (xL d.2.2) <| .st [(0,h),(4,i),(5,xA (y:Int)),(7,oK O),(55,xA d.1),(56,(.agg #[xA d.2.1.kind,z,A,C,E])),(57,xA d.2.2)] [bx O [xA 0,kW,kW,kW,kW] 62,rl 1 xF 2 z d.2.1.values,rl 3 oD 225 A d.2.1.arcs,rl 3 xP 165 C d.2.1.pairs,ro B (V:=(Sl 1 xF)) E d.2.1.numbers,rw B 5 kM 62 i j]) (λ_ z A C E _ i4 _=>?_) (λP=>?_)
  ·
   refine zF [17] rfl (jE 18 rfl ?_);refine zX (hv:=(λH=>oc rfl (oc (H.l 1 rfl).one (oc (H.l 2 rfl).one (oc (H.l 3 rfl).one (oc (H.ro 4 rfl).one on)))))) e3 (qK (zF [19] rfl (iT (cF (xC 2 rfl (xT ?_ ?_))))))
   ·refine xI (jR0 kM λv9=>jA 2 rfl (rO (fZ (zR (fH (lD (jh (λH=>H.lw) (jh (λH=>H.wk) (js [0] rfl ?_)))))))));exact j2 (rt rfl) (rt rfl) ⟨_,lv⟩
   refine xUh (jo rfl (aG 0 e3 (js [1,2,3,4,0,5] rfl (jh (λH=>H.mg) (jh (λH=>H.mg) (jh (λH=>H.mg) ?_))))));refine oKf (N1:=B) n1 (nel (nel (nel n0 n0) n0) n1) (λH=>λe q=>(Eo.agg (kM.m i4 q.l.l.l.ld q.l.l.r.ld q.l.r.ld q.r.rod))) λ_=>jB λz5 c5=>(js [2,0,1] rfl (jP c5 λaq=>kZ 1 rfl (jo rfl (xU (qG p L) (xC 1 rfl (js [0] rfl ?_))))));exact jg ⟨_,ls⟩
  refine zF [0] rfl (jvN 1 rfl c (jvF (s':=2) 2 rfl c vP.f0 λ_ h9=>xFg 3 rfl h9 λ_ G=>zF [4] rfl (jvN 5 rfl c (iO 6 rfl c vP.f1 λ_ R=>rK 7 rfl R λ_ S=>zF [8] rfl (pQ 9 rfl S y1 λ_ T=>xFg 10 rfl T (λ_ I=>?_))))));refine eG (λH=>H) 11 16 rfl rfl ?_ ?_
  ·refine jk (λH=>yC d M _ H.hN (H.u G) (H.u I)) λar au av aw i5 i6 i7=>qK (zF [12,13,14,15] rfl (jE 16 rfl (aK rfl λb2=>qK ?_)));exact P ⟨_,_,_,_,_,i5,i6,i7,ls⟩
  refine aK rfl λb3=>qK (jE 11 rfl (jk (λH=>yC d M _ H.hN (H.u G) (H.u I)) λax ay az b0 i8 i9 U=>qK (zF [12,13,14,15] rfl (js [4,0,1,2,3,5] rfl ?_))));exact P ⟨_,_,_,_,_,i8,i9,U,ls⟩
 refine oO (xS 3 rfl ?_);exact j2 (rt rfl) (rt rfl) ⟨_,lv⟩
def jH (N:Nat) (c:B6):Option Bool:= xG (cP N (B6.mk (A6.mk c.template.size c.template.rels) c.jobs c.clerks)) λd=>some d.2
theorem xFb {e} (r) (j:jH N e=some r) {c} (d) (hN:HN B d) (p:Bo B d (qS 4 vP) c e):CG B d 5 #[c] (.st (.bool r) λD=>D):=by
 unfold jH at j
 revert r
 refine vM func5 [(0,c)] hN λr=>?_;refine xI ?_;obtain⟨F,G,rfl,t,x,y,h⟩:=vP.o p;refine jX e2 λ_=>xM 1 rfl (cZ λ_ _ _ _ z f i _=>?_);have A:=z.bk;refine jB λC E=>(jk (λH=>xEi C E _ H.hN (vP.b (A.to H.sm) t (H.u (f x)) (H.u (f y)) h)) λ_=>xM 5 rfl (xS 2 rfl (js [] rfl (aI i ?_))));exact qT (rt rfl) lv
def aU (c d e:Int):Option Bool:= oZ (σ:=Bool) (if (decide (d<=c)) then  some (.nx (decide (c<=e))) else  some (.nx false)) λf=>some f
theorem bP {c d e} (r) (h:aU c d e=some r) (f) (hN:HN B f) (j:xL c) (p:xL d) (t:xL e):CG B f 25 #[xA c,xA d,xA e] (.st (.bool r) λD=>D):=by
 unfold aU at h
 revert r
 refine vM func25 [(0,xA c),(1,xA d),(2,xA e)] hN λr=>?_;refine xI (xW 1 rfl (qZ (λi=>.st [(6,.bool i)] []) ?_ (λ_=>?_)))
 ·
  refine lP (jA 4 rfl (fD 10 (λ_=>?_) (λ_=>?_)))
  ·refine xC 5 rfl ?_;exact jf ls
  refine xC 5 rfl ?_;exact jf ls
 refine nH ?_;exact qT (rt rfl) lv
def mD (c:Int):Option Bool:= xG (aU c 1 4) λd=>some d
theorem wN {c} (r) (f:mD c=some r) (d) (hN:HN B d) (e:xL c):CG B d 41 #[xA c] (.st (.bool r) λD=>D):=by
 unfold mD at f
 revert r
 refine vM func41 [(0,xA c)] hN λr=>?_;refine xI (xM 1 rfl (jo rfl (jB λh i=>(jk (λH=>bP h i _ aA e zL uC) (xS 1 rfl ?_)))));exact qT (rt rfl) lv
def rA (c:Int):Option Bool:= xG (aU c 1 4) λd=>some d
theorem xKm {c} (r) (f:rA c=some r) (d) (hN:HN B d) (e:xL c):CG B d 78 #[xA c] (.st (.bool r) λD=>D):=by
 unfold rA at f
 revert r
 refine vM func78 [(0,xA c)] hN λr=>?_;refine xI (xM 1 rfl (jo rfl (jB λh i=>(jk (λH=>bP h i _ aA e zL uC) (xS 1 rfl ?_)))));exact qT (rt rfl) lv
def dX (c d:Int):Option Bool:= xG (ck (c - 1)) λe=>xG (aU d 0 e) λf=>some f
theorem tR {c d} (r) (i:dX c d=some r) (e) (hN:HN B e) (t:xL c) (h:xL d):CG B e 126 #[xA c,xA d] (.st (.bool r) λD=>D):=by
 unfold dX at i
 revert r
 refine vM func126 [(0,xA c),(1,xA d)] hN λr=>?_;refine xI (xM 1 rfl (jA 2 rfl (jB λx f=>(gM f (jB λj p=>(jk (λH=>bP j p _ aA h xO (kA f)) (xS 1 rfl ?_)))))));exact qT (rt rfl) lv
def gZ (c d:Int):Option Bool:= xG (dX d c) λe=>some ((!e))
theorem xDr {c f} (r) (i:gZ c f=some r) {d} (e) (hN:HN B e) (h:xL c) (j:Bo B e (Pt 1 xF) d f):CG B e 125 #[xA c,d] (.st (.bool r) λD=>D):=by
 unfold gZ at i
 revert r
 refine vM func125 [(0,xA c),(1,d)] hN λr=>?_;refine xI (xM 1 rfl (aP j λp=>jo rfl (jB λt x=>(jk (λH=>tR t x _ aA p h) (xS 2 rfl ?_)))));exact qT (rt rfl) lv
def qA (c:List Int) (d:Int->Option Bool):Option Int:= oZ (σ:=Unit) (oM (λe (f:Int) s=>match s with | _=>xG (d f) λh=>if h then some (.ret ((e:Int))) else some (.go ())) c 0 ()) λ_=>some ((-1))
theorem bW {i p} (r) (E:qA i p=some r) {f c e} (d) (hN:HN B d) (t:Bo B d (Sl 1 xF) f i) (z:∀ args w,(callFunc c args).run prog w= .ok (.enter c args) w) (A:∀ (j:Int) (r:Bool),p j=some r->∀ W,Below d.heap.size d W->xL j->Calls prog c ([xA j]++e:List Vl).toArray W (Gt (All W) W [] (.st (.bool r) λD=>D))):CG B d 183 #[f,.func (.func c) #[] e.toArray] (.fa (xL r) <| .st (xA r) λD=>D):=by
 unfold qA at E
 revert r
 refine vM func183 [(0,f),(1,.func (.func c) #[] e.toArray)] hN λr=>?_;refine xI (xK 1 rfl (jo rfl (jL t λx=>xC 1 rfl (qZ (λ_=>.st [] []) ?_ (λ_=>?_)))))
 ·
  refine zK (jl (λy _=>.st [(8,xA (y:Int)),(0,f),(1,.func (.func c) #[] e.toArray),(7,xA (i.length:Int))] []) ls (λ_ _ _ F=>?_) (λy _ _ h G=>?_))
  ·have I:=oU F;refine xI (xW 1 rfl (kJ I (xN ?_)));exact jf ls
  refine xI (xW 1 rfl (kO (xX h) (xY (qE (xM 2 rfl (jA 3 rfl (jI t G λ_ K=>aP K (λC=>?_))))))));refine jB λL M=>?_;refine jkV z e2 (λH=>A _ L M _ H.bl C) (kD (xT ?_ ?_))
  ·refine xI (oY 2 rfl (fZ (zR (fH (lD ?_)))));exact qT (rt rfl) ⟨(dS (Ah h) x),lv⟩
  refine qJ (xU (qG h x) (xC 1 rfl ?_));exact jg ls
 refine oO (xS 1 rfl ?_);exact qT (rt rfl) ⟨bC,lv⟩
def qU (c:List Int) (d:Int->Option Bool):Option Bool:= xG (qA c d) λe=>some ((decide (0<=e)))
theorem aX {j p} (r) (y:qU j p=some r) {i c f} (d) (hN:HN B d) (z:Bo B d (Sl 1 xF) i j) (t:∀ args w,(callFunc c args).run prog w= .ok (.enter c args) w) (x:∀ (e:Int) (r:Bool),p e=some r->∀ W,Below d.heap.size d W->xL e->Calls prog c ([xA e]++f:List Vl).toArray W (Gt (All W) W [] (.st (.bool r) λD=>D))):CG B d 124 #[i,.func (.func c) #[] f.toArray] (.st (.bool r) λD=>D):=by
 unfold qU at y
 revert r
 refine vM func124 [(0,i),(1,.func (.func c) #[] f.toArray)] hN λr=>?_;refine xI (xM 1 rfl (jA 2 rfl (jB λA C=>(jk (λH=>bW A C _ aA (H.a z) t (λe r h W E=>x e r h W (H.bl.trans (E.mono H.fr.size)))) λF=>xS 2 rfl ?_))));exact qT (rt rfl) lv
def aL (d:Int) (c:List Int) (e:Int):Option Bool:= oZ (σ:=Bool) (if ((c.length:Int)==e) then  xG (qU c (λf=>gZ f d)) λh=>some (.nx (!h)) else  some (.nx false)) λi=>some i
theorem mZ {c i d} (r) (t:aL c i d=some r) {e} (f) (hN:HN B f) (p:xL c) (j:Bo B f (Sl 1 xF) e i) (C:xL d):CG B f 79 #[xA c,e,xA d] (.st (.bool r) λD=>D):=by
 unfold aL at t
 revert r
 refine vM func79 [(0,xA c),(1,e),(2,xA d)] hN λr=>?_;refine xI (jX e2 λ_=>xW 1 rfl (qZ (λx=>.st [(6,.bool x)] []) ?_ (λ_=>?_)))
 ·
  refine lP (jo rfl (jL j λ_=>jA 3 rfl (fD 11 (λ_=>?_) (λ_=>?_))))
  ·refine jo rfl (dJ e2 (jB λy z=>(jk (λH=>aX y z _ aA (H.a j) call125 (λE r h W A f0=>xDr r h W aA f0 ((c1I (H.g 0 rfl).bk p).w A))) (xC 3 rfl (js [] rfl ?_)))));exact jf ls
  refine xC 6 rfl (js [] rfl ?_);exact jf ls
 refine nH ?_;exact qT (rt rfl) lv
def jK (c:Int):Option Bool:= some ((c != c))
theorem uY {c} (r) (e:jK c=some r) (d) (hN:HN B d) (f:xL c):CG B d 184 #[xA c] (.st (.bool r) λD=>D):=by
 unfold jK at e
 revert r
 refine vM func184 [(0,xA c)] hN λr=>?_;refine xI (xM 1 rfl (xS 4 rfl ?_));exact qT (rt rfl) lv
def dM (c d:Int):Option Int:= xG (jK c) λf=>xG (jK d) λe=>if f then if e then some 0 else some ((-1)) else if e then some 1 else if (decide (c<d)) then some ((-1)) else if (decide (d<c)) then some 1 else some 0
theorem xCu {c d} (r) (i:dM c d=some r) (e) (hN:HN B e) (f:xL c) (h:xL d):CG B e 127 #[xA c,xA d] (.fa (xL r) <| .st (xA r) λD=>D):=by
 unfold dM at i
 revert r
 refine vM func127 [(0,xA c),(1,xA d)] hN λr=>?_;refine xI (xM 1 rfl (jo rfl (jB λj p=>(jk (λH=>uY j p _ aA f) (xM 1 rfl (jo rfl (jB λt x=>(jk (λH=>uY t x _ aA h) ?_))))))));refine xK 1 rfl (xC 1 rfl (xT ?_ ?_))
 ·
  refine xR (xC 1 rfl (xT ?_ ?_))
  ·refine xI (jo rfl (xIx ?_));exact qT (rt rfl) ⟨xO,lv⟩
  refine qR (oE 1 rfl ?_);exact qT (rt rfl) ⟨bC,lv⟩
 refine vT (xC 1 rfl (xT ?_ ?_))
 ·refine xI (oE 1 rfl ?_);exact qT (rt rfl) ⟨zL,lv⟩
 refine vT (xC 3 rfl (xT ?_ ?_))
 ·refine xI (oE 1 rfl ?_);exact qT (rt rfl) ⟨bC,lv⟩
 refine vT (xC 3 rfl (xT ?_ ?_))
 ·refine xI (oE 1 rfl ?_);exact qT (rt rfl) ⟨zL,lv⟩
 refine qR (xS 1 rfl ?_);exact qT (rt rfl) ⟨xO,lv⟩
def zC (d c:List Int):Option Int:= oZ (σ:=Unit) (oM (λe (h:Int) s=>match s with | _=>if (decide ((c.length:Int)<=(e:Int))) then some (.ret 1) else xG (ix c (e:Int)) λi=>xG (dM h i) λf=>if (f != 0) then some (.ret f) else some (.go ())) d 0 ()) λ_=>if (decide ((d.length:Int)<(c.length:Int))) then some ((-1)) else some 0
theorem hU {h p} (r) (z:zC h p=some r) {c d} (e) (hN:HN B e) (i:Bo B e (Sl 1 xF) c h) (j:Bo B e (Sl 1 xF) d p):CG B e 80 #[c,d] (.fa (xL r) <| .st (xA r) λD=>D):=by
 unfold zC at z
 revert r
 refine vM func80 [(0,c),(1,d)] hN λr=>?_;refine xI (xK 1 rfl (jo rfl (jL i λt=>xC 1 rfl (qZ (λ_=>.st [(0,c),(1,d)] []) ?_ (λ_=>?_)))))
 ·
  refine zK (jl (λx _=>.st [(11,xA (x:Int)),(0,c),(1,d),(9,c),(10,xA (h.length:Int))] []) ls (λ_ _ _ A=>?_) (λx _ _ f C=>?_))
  ·have E:=oU A;refine xI (xW 1 rfl (kJ E (xN ?_)));exact jf ls
  refine xI (xW 1 rfl (kO (xX f) (xY ?_)));have j1:=dS (Ah f) t;refine qE (jo rfl (jI i C λ_ F=>aP F λG=>xK 2 rfl (jA 2 rfl (jL j λ_=>xC 1 rfl (xT ?_ ?_)))))
  ·refine xI (jo rfl (rO (fZ (zR (fH (lD ?_))))));exact qT (rt rfl) ⟨zL,lv⟩
  refine qR (jA 2 rfl (jB λO I=>(jI j I λ_ K=>aP K λL=>xM 1 rfl (jA 2 rfl (jB λM N=>(jk (λH=>xCu M N _ aA G L) λy=>jo rfl ?_))))));refine qW (xC 2 rfl (xT ?_ ?_))
  ·refine xI (oY 2 rfl (fZ (zR (fH (lD ?_)))));exact qT (rt rfl) ⟨y,lv⟩
  refine qJ (xU (qG f t) (xC 1 rfl ?_));exact jg ls
 refine cF (jo rfl (jL i λ_=>jo rfl (jL j λ_=>xC 1 rfl (xT ?_ ?_))))
 ·refine xI (oE 1 rfl ?_);exact qT (rt rfl) ⟨bC,lv⟩
 refine qR (xS 1 rfl ?_);exact qT (rt rfl) ⟨xO,lv⟩
def eB (d:Int) (c:Rel):Option Bool:= oZ (σ:=Bool) (xG (mD d) λh=>if (!h) then  some (.nx true) else  xG (rA c.arity) λi=>some (.nx (!i))) λj=>if j then some false else oZ (σ:=Unit) (oM (λe (f:(List Int)) s=>match s with | _=>oZ (σ:=Bool) (xG (aL d f c.arity) λp=>if (!p) then  some (.nx true) else  if (decide (0<(e:Int))) then  xG (ck ((e:Int) - 1)) λt=>xG (ix c.tuples t) λx=>xG (zC x f) λy=>some (.nx (decide (0<=y))) else  some (.nx false)) λz=>if z then some (.ret false) else some (.go ())) c.tuples 0 ()) λ_=>some true
theorem xIc {c d} (r) (C:eB c d=some r) {i} (j) (hN:HN B j) (x:xL c) (E:Bo B j (qS 2 oQ) i d):CG B j 44 #[xA c,i] (.st (.bool r) λD=>D):=by
 unfold eB at C
 revert r
 refine vM func44 [(0,xA c),(1,i)] hN λr=>?_;refine xI ?_;obtain⟨f,rfl,y,p⟩:=oQ.o E;refine jX e2 λe=>jo rfl (nE ?_);refine qZ (λF=>.st [(0,xA c),(3,oK e),(15,.bool F)] [bx e [xA d.arity,f] 80]) ?_ (λ_=>?_)
 ·
  refine lP (jo rfl (jB λG I=>(jk (λH=>wN G I _ aA x) (jA 2 rfl (fD 10 (λ_=>?_) (λ_=>?_))))))
  ·refine xC 5 rfl ?_;exact jf ls
  refine xZ e2 (jb 0 e3 (jB λK L=>(jk (λH=>xKm K L _ aA y) (xC 2 rfl ?_))));exact jf ls
 refine eD (xT ?_ ?_)
 ·refine xI (oE 1 rfl ?_);exact qT (rt rfl) lv
 refine vT (xZ e2 (jb 0 e3 (jL p λz=>xC 1 rfl (qZ (λ_=>.st [] []) ?_ (λ_=>?_)))))
 ·
  refine zK ?_;refine jl (λt _=>.st [(19,xA (t:Int)),(0,xA c),(3,oK e),(17,f),(18,xA (d.tuples.length:Int))] [bx e [xA d.arity,f] 80]) ls (λ_ _ _ M=>?_) (λt _ _ h N=>?_)
  ·have O:=oU M;refine xI (xW 1 rfl (kJ O (xN (js [] rfl ?_))));exact jf ls
  refine xI (xW 1 rfl (kO (xX h) (xY ?_)));have j1:=dS (Ah h) z;refine qE (jo rfl (jI p N λ_ P=>aR P λ_ A=>xW 2 rfl ?_));refine qZ (λQ=>.st [(0,xA c),(3,oK e),(17,f),(18,xA (d.tuples.length:Int)),(19,xA (t:Int)),(44,.bool Q)] [bx e [xA d.arity,f] 80]) ?_ (λ_=>?_)
  ·
   refine lP (jA 2 rfl (xZ e2 (jb 0 e3 (jB λR S=>(jk (λH=>mZ R S _ aA x (H.a A) y) (jA 2 rfl (fD 30 (λ_=>?_) (λ_=>?_))))))))
   ·refine xC 14 rfl ?_;exact jf ls
   refine jA 3 rfl (fD 33 (λ_=>?_) (λ_=>?_))
   ·refine xZ e2 (jb 0 e3 (jo rfl (jB λz4 T=>(gM T (jB λz5 U=>(jI p U λ_ W=>aR W λ_ X=>jo rfl (jB λY Z=>(jk (λH=>hU Y Z _ aA (H.a X) (H.a A)) (λa0=>?_)))))))));refine xC 3 rfl ?_;exact jf ls
   refine xC 11 rfl ?_;exact jf ls
  refine eD (xT ?_ ?_)
  ·refine xI (oY 1 rfl (fZ (zR (fH (lD ?_)))));exact qT (rt rfl) lv
  refine qJ (xU (qG h z) (xC 1 rfl ?_));exact jg ls
 refine oO (xS 1 rfl ?_);exact qT (rt rfl) lv
def gC (c:Rel) (d:A6):Option Bool:= xG (eB d.size (Rel.mk c.arity c.tuples)) λe=>some ((!e))
theorem yZ {f h} (r) (j:gC f h=some r) {d e} (c) (hN:HN B c) (p:Bo B c (qS 2 oQ) d f) (t:Bo B c (Pt 2 xB) e h):CG B c 43 #[d,e] (.st (.bool r) λD=>D):=by
 unfold gC at j
 revert r
 refine vM func43 [(0,d),(1,e)] hN λr=>?_;refine xI ?_;obtain⟨E,rfl,x,y⟩:=oQ.o p;refine jX e2 λ_=>xM 1 rfl (aF t xB.f0 λ_ i=>aP i λz=>aG 0 e3 (jB λA C=>?_));refine jk (λH=>xIc A C _ aA z (oQ.m x (H.a y))) (xS 2 rfl ?_);exact qT (rt rfl) lv
def kN (c:List Rel) (d:Rel->Option Bool):Option Int:= oZ (σ:=Unit) (oM (λe (f:Rel) s=>match s with | _=>xG (d f) λh=>if h then some (.ret ((e:Int))) else some (.go ())) c 0 ()) λ_=>some ((-1))
theorem iU {i j} (r) (F:kN i j=some r) {f c e} (d) (hN:HN B d) (p:Bo B d (Sl 2 oQ) f i) (A:∀ args w,(callFunc c args).run prog w= .ok (.enter c args) w) (C:∀ (t:Rel) (r:Bool),j t=some r->∀ W,Below d.heap.size d W->∀ (x:Vl),Bo (All W) W (qS 2 oQ) x t->Calls prog c ([x]++e:List Vl).toArray W (Gt (All W) W [] (.st (.bool r) λD=>D))):CG B d 77 #[f,.func (.func c) #[] e.toArray] (.fa (xL r) <| .st (xA r) λD=>D):=by
 unfold kN at F
 revert r
 refine vM func77 [(0,f),(1,.func (.func c) #[] e.toArray)] hN λr=>?_;refine xI (xK 1 rfl (jo rfl (jL p λy=>xC 1 rfl (qZ (λ_=>.st [] []) ?_ (λ_=>?_)))))
 ·
  refine zK (jl (λz _=>.st [(8,xA (z:Int)),(0,f),(1,.func (.func c) #[] e.toArray),(7,xA (i.length:Int))] []) ls (λ_ _ _ G=>?_) (λz _ _ h I=>?_))
  ·have K:=oU G;refine xI (xW 1 rfl (kJ K (xN ?_)));exact jf ls
  refine xI (xW 1 rfl (kO (xX h) (xY (qE (xM 2 rfl (jA 3 rfl (jI p I λ_ E=>jlA E (λ_ L=>?_))))))));refine jB λM N=>?_;refine jkV A e2 (λH=>C _ M N _ H.bl _ (H.a L)) (kD (xT ?_ ?_))
  ·refine xI (oY 2 rfl (fZ (zR (fH (lD ?_)))));exact qT (rt rfl) ⟨(dS (Ah h) y),lv⟩
  refine qJ (xU (qG h y) (xC 1 rfl ?_));exact jg ls
 refine oO (xS 1 rfl ?_);exact qT (rt rfl) ⟨bC,lv⟩
def qX (c:List Rel) (d:Rel->Option Bool):Option Bool:= xG (kN c d) λe=>some ((decide (0<=e)))
theorem aJ {j p} (r) (z:qX j p=some r) {i c f} (d) (hN:HN B d) (A:Bo B d (Sl 2 oQ) i j) (x:∀ args w,(callFunc c args).run prog w= .ok (.enter c args) w) (y:∀ (e:Rel) (r:Bool),p e=some r->∀ W,Below d.heap.size d W->∀ (t:Vl),Bo (All W) W (qS 2 oQ) t e->Calls prog c ([t]++f:List Vl).toArray W (Gt (All W) W [] (.st (.bool r) λD=>D))):CG B d 42 #[i,.func (.func c) #[] f.toArray] (.st (.bool r) λD=>D):=by
 unfold qX at z
 revert r
 refine vM func42 [(0,i),(1,.func (.func c) #[] f.toArray)] hN λr=>?_;refine xI (xM 1 rfl (jA 2 rfl (jB λC E=>(jk (λH=>iU C E _ aA (H.a A) x (λe r h W F=>y e r h W (H.bl.trans (F.mono H.fr.size)))) λG=>xS 2 rfl ?_))));exact qT (rt rfl) lv
def zD (c:A6):Option Bool:= oZ (σ:=Bool) (xG (mD c.size) λd=>if d then  if (decide ((c.rels.length:Int)<=6)) then  xG (qX c.rels (λe=>gC e (A6.mk c.size c.rels))) λf=>some (.nx (!f)) else  some (.nx false) else  some (.nx false)) λh=>some h
theorem fY {f} (r) (p:zD f=some r) {c} (d) (hN:HN B d) (t:Bo B d (qS 2 xB) c f):CG B d 24 #[c] (.st (.bool r) λD=>D):=by
 unfold zD at p
 revert r
 refine vM func24 [(0,c)] hN λr=>?_;refine xI ?_;obtain⟨E,rfl,i,e⟩:=xB.o t;refine jX e2 λ_=>xW 1 rfl (qZ (λx=>.st [(2,.bool x)] []) ?_ (λ_=>?_))
 ·
  refine lP (xZ e2 (jb 0 e3 (jB λy z=>(jk (λH=>wN y z _ aA i) (jo rfl (fD 6 (λ_=>?_) (λ_=>?_)))))))
  ·
   refine xZ e2 (jb 0 e3 (jL e λ_=>jA 3 rfl (fD 12 (λ_=>?_) (λ_=>?_))))
   ·refine xZ e2 (jb 0 e3 (dJ e2 (jB λA j=>(jk (λH=>aJ A j _ aA (H.a e) call43 (λF r h W C G f0=>yZ r h W aA f0 ((xB.b (H.g 0 rfl).bk i (H.a e)).w C))) (xC 3 rfl (js [] rfl ?_))))));exact jf ls
   refine xC 7 rfl (js [] rfl ?_);exact jf ls
  refine xC 13 rfl (js [] rfl ?_);exact jf ls
 refine nH ?_;exact qT (rt rfl) lv
def uX (c:Int):Option Bool:= xG (aU c 1 10) λd=>some d
theorem xMe {c} (r) (f:uX c=some r) (d) (hN:HN B d) (e:xL c):CG B d 81 #[xA c] (.st (.bool r) λD=>D):=by
 unfold uX at f
 revert r
 refine vM func81 [(0,xA c)] hN λr=>?_;refine xI (xM 1 rfl (jo rfl (jB λh i=>(jk (λH=>bP h i _ aA e zL xPn) (xS 1 rfl ?_)))));exact qT (rt rfl) lv
def fW (c:Con) (d:A6) (e:A7):Option Bool:= oZ (σ:=Bool) (xG (ck ((d.rels.length:Int) - 1)) λf=>xG (aU c.rel 0 f) λh=>if (!h) then  some (.nx true) else  xG (ix d.rels c.rel) λi=>xG (aL e.vars c.scope i.arity) λj=>some (.nx (!j))) λp=>some p
theorem yS {h i j} (r) (x:fW h i j=some r) {d e f} (c) (hN:HN B c) (y:Bo B c (qS 2 vS) d h) (p:Bo B c (Pt 2 xB) e i) (z:Bo B c (Pt 2 xH) f j):CG B c 83 #[d,e,f] (.st (.bool r) λD=>D):=by
 unfold fW at x
 revert r
 refine vM func83 [(0,d),(1,e),(2,f)] hN λr=>?_;refine xI ?_;obtain⟨X,rfl,A,C⟩:=vS.o y;refine jX e2 λ_=>xW 1 rfl (qZ (λE=>.st [(4,.bool E)] []) ?_ (λ_=>?_))
 ·
  refine jQ (sW e2 (jqb 0 e3 (cI p xB.f1 λ_ G=>eZ G λ_ I=>jqL I λ_=>jB λY t=>(jqv (λF H w l=>xBb F rfl rfl t) (jB λK L=>(jqk (λH=>bP K L _ aA A xO (kA t)) (zA 2 rfl ?_)))))));refine fD 13 (λ_=>?_) (λ_=>?_)
  ·refine zA 15 rfl (nD (eD (js [] rfl ?_)));exact jf ls
  refine cI z xH.f0 λ_ M=>kI M λN=>sW e2 (jqb 0 e3 (cI p xB.f1 λ_ O=>eZ O λ_ P=>sW e2 (jqb 0 e3 (jB λZ Q=>(lM P Q λ_ R=>cI R oQ.f0 (λ_ S=>?_))))));refine kI S λT=>jB λU W=>(jqk (λH=>mZ U W _ aA N (H.a C) T) (zA 3 rfl (nD (eD (js [] rfl ?_)))));exact jf ls
 refine nH ?_;exact qT (rt rfl) lv
def kL (c:List Con) (d:Con->Option Bool):Option Int:= oZ (σ:=Unit) (oM (λe (f:Con) s=>match s with | _=>xG (d f) λh=>if h then some (.ret ((e:Int))) else some (.go ())) c 0 ()) λ_=>some ((-1))
theorem jG {i j} (r) (F:kL i j=some r) {f c e} (d) (hN:HN B d) (p:Bo B d (Sl 2 vS) f i) (A:∀ args w,(callFunc c args).run prog w= .ok (.enter c args) w) (C:∀ (t:Con) (r:Bool),j t=some r->∀ W,Below d.heap.size d W->∀ (x:Vl),Bo (All W) W (qS 2 vS) x t->Calls prog c ([x]++e:List Vl).toArray W (Gt (All W) W [] (.st (.bool r) λD=>D))):CG B d 128 #[f,.func (.func c) #[] e.toArray] (.fa (xL r) <| .st (xA r) λD=>D):=by
 unfold kL at F
 revert r
 refine vM func128 [(0,f),(1,.func (.func c) #[] e.toArray)] hN λr=>?_;refine xI (xK 1 rfl (jo rfl (jL p λy=>xC 1 rfl (qZ (λ_=>.st [] []) ?_ (λ_=>?_)))))
 ·
  refine zK (jl (λz _=>.st [(8,xA (z:Int)),(0,f),(1,.func (.func c) #[] e.toArray),(7,xA (i.length:Int))] []) ls (λ_ _ _ G=>?_) (λz _ _ h I=>?_))
  ·have K:=oU G;refine xI (xW 1 rfl (kJ K (xN ?_)));exact jf ls
  refine xI (xW 1 rfl (kO (xX h) (xY (qE (xM 2 rfl (jA 3 rfl (jI p I λ_ E=>jlA E (λ_ L=>?_))))))));refine jB λM N=>?_;refine jkV A e2 (λH=>C _ M N _ H.bl _ (H.a L)) (kD (xT ?_ ?_))
  ·refine xI (oY 2 rfl (fZ (zR (fH (lD ?_)))));exact qT (rt rfl) ⟨(dS (Ah h) y),lv⟩
  refine qJ (xU (qG h y) (xC 1 rfl ?_));exact jg ls
 refine oO (xS 1 rfl ?_);exact qT (rt rfl) ⟨bC,lv⟩
def vK (c:List Con) (d:Con->Option Bool):Option Bool:= xG (kL c d) λe=>some ((decide (0<=e)))
theorem cH {j p} (r) (z:vK j p=some r) {i c f} (d) (hN:HN B d) (A:Bo B d (Sl 2 vS) i j) (x:∀ args w,(callFunc c args).run prog w= .ok (.enter c args) w) (y:∀ (e:Con) (r:Bool),p e=some r->∀ W,Below d.heap.size d W->∀ (t:Vl),Bo (All W) W (qS 2 vS) t e->Calls prog c ([t]++f:List Vl).toArray W (Gt (All W) W [] (.st (.bool r) λD=>D))):CG B d 82 #[i,.func (.func c) #[] f.toArray] (.st (.bool r) λD=>D):=by
 unfold vK at z
 revert r
 refine vM func82 [(0,i),(1,.func (.func c) #[] f.toArray)] hN λr=>?_;refine xI (xM 1 rfl (jA 2 rfl (jB λC E=>(jk (λH=>jG C E _ aA (H.a A) x (λe r h W F=>y e r h W (H.bl.trans (F.mono H.fr.size)))) λG=>xS 2 rfl ?_))));exact qT (rt rfl) lv
def kS (d:A6) (c:A7):Option Bool:= oZ (σ:=Bool) (xG (zD (A6.mk d.size d.rels)) λf=>if f then  xG (uX c.vars) λh=>if h then  if (decide ((c.cons.length:Int)<=24)) then  xG (vK c.cons (λi=>fW i (A6.mk d.size d.rels) (A7.mk c.vars c.cons))) λj=>some (.nx (!j)) else  some (.nx false) else  some (.nx false) else  some (.nx false)) λe=>some e
theorem fM {i j} (r) (A:kS i j=some r) {d e} (c) (hN:HN B c) (C:Bo B c (qS 2 xB) d i) (E:Bo B c (qS 2 xH) e j):CG B c 45 #[d,e] (.st (.bool r) λD=>D):=by
 unfold kS at A
 revert r
 refine vM func45 [(0,d),(1,e)] hN λr=>?_;refine xI ?_;obtain⟨O,rfl,p,t⟩:=xB.o C;refine jX e2 (λ_=>?_);obtain⟨N,rfl,x,f⟩:=xH.o E;refine jX e2 λ_=>xW 1 rfl (qZ (λz=>.st [(4,.bool z)] []) ?_ (λ_=>?_))
 ·
  refine lP (aG 1 e3 (jB λF G=>?_));refine jk (λH=>fY F G _ aA (xB.m p (H.a t))) (jo rfl (fD 7 (λ_=>?_) (λ_=>?_)))
  ·
   refine xZ e2 (jb 0 e3 (jB λI K=>(jk (λH=>xMe I K _ aA x) (jA 2 rfl (fD 12 (λ_=>?_) (λ_=>?_))))))
   ·
    refine xZ e2 (jb 0 e3 (jL f λ_=>jA 3 rfl (fD 18 (λ_=>?_) (λ_=>?_))))
    ·refine xZ e2 (jb 0 e3 (dJ e2 (jB λL M=>(jk (λH=>cH L M _ aA (H.a f) call83 (λP r h W y Q f0=>yS r h W aA f0 ((xB.b (H.g 1 rfl).bk p (H.a t)).w y) ((xH.b (H.g 0 rfl).bk x (H.a f)).w y))) (xC 3 rfl (js [] rfl ?_))))));exact jf ls
    refine xC 7 rfl (js [] rfl ?_);exact jf ls
   refine xC 13 rfl (js [] rfl ?_);exact jf ls
  refine xC 18 rfl (js [] rfl ?_);exact jf ls
 refine nH ?_;exact qT (rt rfl) lv
def mP (c:Rel):Option Bool:= some (((c.tuples.length:Int)==0))
theorem xCb {e} (r) (f:mP e=some r) {c} (d) (hN:HN B d) (h:Bo B d (qS 2 oQ) c e):CG B d 84 #[c] (.st (.bool r) λD=>D):=by
 unfold mP at f
 revert r
 refine vM func84 [(0,c)] hN λr=>?_;refine xI ?_;obtain⟨j,rfl,p,i⟩:=oQ.o h;refine jX e2 λ_=>xM 1 rfl (xZ e2 (jb 0 e3 (jL i λ_=>xS 2 rfl ?_)));exact qT (rt rfl) lv
def nX (d:List Int) (c:Int):Option Int:= some c
theorem xFr {f h} (r) (i:nX f h=some r) {d e} (c) (hN:HN B c) (t:Bo B c (Sl 1 xF) d f) (j:Bo B c (Pt 1 xF) e h):CG B c 130 #[d,e] (.fa (xL r) <| .st (xA r) λD=>D):=by
 unfold nX at i
 revert r
 refine vM func130 [(0,d),(1,e)] hN λr=>?_;refine xI (xM 1 rfl (aP j λp=>xS 1 rfl ?_));exact qT (rt rfl) ⟨p,lv⟩
end Go.Proofs.YtnjlbbfcngjhmaaGreat
