import Derived.Test.YtnjlbbfcngjhmaaGreatP3
namespace Go.Proofs.YtnjlbbfcngjhmaaGreat
set_option linter.unusedVariables false
set_option linter.unusedSimpArgs false
open Go.Proofs.Tryz
set_option maxHeartbeats 1000000
set_option maxRecDepth 100000
open Go.RowKit
variable {B:Nat->Prop} {N:Nat}
def bJ (N:Nat) (c:A6) (d:A7) (e:Op):Option (B0×Int):= xG (pI N (A6.mk c.size c.rels) (A7.mk d.vars d.cons) (Op.mk e.arity e.table) 6) λh=>if (h != 0) then some ((B0.mk 0 ([]) ([]) ([]) ([])),h) else xG (mN (A6.mk c.size c.rels) (A7.mk d.vars d.cons)) λi=>xG (nB N (A6.mk c.size c.rels) (A7.mk d.vars d.cons) i) λf=>xG (mS f.2) λj=>if j then some ((B0.mk 1 ([]) f.1 ([]) ([])),0) else oZ (σ:=List Int) (oM (λA p t=>xG (iN c.size (Op.mk e.arity e.table) p) λx=>xG (ap t ([x])) λy=>some (.go y)) f.2 0 []) λz=>some ((B0.mk 0 z ([]) ([]) ([])),0)
theorem uS {K L i} (r) (hR:bJ N K L i=some r) {j p t} (c) (hN:HN B c) (A0:Bo B c (qS 2 xB) j K) (A1:Bo B c (qS 2 xH) p L) (A2:Bo B c (qS 2 vU) t i):CG B c 36 #[j,p,t] (.v λF=>.v λG=>.fa (xL r.1.kind) <| .fa (xL r.2) <| .st (.tuple #[.agg #[xA r.1.kind,F,G,kW,kW],xA r.2]) λD=>rl 1 xF 2 F r.1.values::rl 3 oD 225 G r.1.arcs::D):=by
 unfold bJ at hR
 revert r
 refine vM func36 [(0,j),(1,p),(2,t)] hN λr=>?_;refine xI ?_;obtain⟨v3,rfl,d,x⟩:=xB.o A0;refine jX e2 (λb1=>?_);obtain⟨au,rfl,y,z⟩:=xH.o A1;refine jX e2 (λ_=>?_);obtain⟨v4,rfl,M,O⟩:=vU.o A2;refine jX e2 λP=>aK rfl λe=>xK 1 rfl (jB λz1 c1=>(jk (λH=>xDb z1 c1 _ aA (xB.b (H.g 3 rfl).bk d (H.a x)) (xH.b (H.g 2 rfl).bk y (H.a z)) (vU.b (H.g 1 rfl).bk M (H.a O)) sS) λa0=>xM 1 rfl (xC 2 rfl (xT ?_ ?_))))
 ·refine xI (oV e5 (jo rfl (zX e3 (oE 1 rfl ?_))));exact nJ (λH=>((H.nl 1 xF 2).nl 3 oD 225).s [1,0] rfl rfl) (dA 0 e2) (rt rfl) ⟨_,_,xO,a0,lv⟩
 refine qR (jB λz2 c2=>(jk (λH=>xAw z2 c2 _ aA (xB.b (H.g 3 rfl).bk d (H.a x)) (xH.b (H.g 2 rfl).bk y (H.a z))) λQ=>xM 1 rfl (jo rfl (js [4,3,0,1,2] rfl (jh (λH=>H.mg) (cZ λw1 X1 N1 _ R A I _=>?_))))));have S:=R.l.bk;have K2:=R.r.bk;refine jB λT c3=>(jh (λH=>H.lw) (jko 1 (λK3 H=>xBr T c3 _ H.hN K3 (xB.b (S.to H.sm) d (H.u (A x))) (xH.b (K2.to H.sm) y (H.u (A z)))) λv6=>xK 1 rfl (jo rfl (jB λz4 c4=>(jk (λH=>xBp z4 c4 _ aA (H.r 1 rfl)) (kD (xT ?_ ?_)))))))
 ·refine xI (jo rfl ?_);refine oV (hone:=(λH=>oc rfl (oc (H.l 0 rfl).one on))) e5 (js [2,0,1,3] rfl ?_);refine zX (hv:=(λH=>oc rfl (oc rfl (oc (H.l 1 rfl).one (oc rfl (oc rfl on)))))) e3 (oE 1 rfl (aI I (jh (λH=>H.um) ?_)));exact nJ (λH=>(H.nl 1 xF 2).s [0,4] rfl rfl) (dA 2 e2) (rt rfl) ⟨_,_,zL,xO,lv⟩
 refine qR (oV e5 (aK rfl λf=>zX e3 (dZ (xC 1 rfl ?_))));refine qZ (λs1=>.v λC=>.st [(6,oK e),(11,oK f)] [rl 1 xF 2 C s1,bx f [xA 0,C,kW,kW,kW] 62,bx e [xA 0,kW,kW,kW,kW] 62]) ?_ (λ_ C=>?_)
 ·
  refine zK (jh (λH=>H.nl 1 xF 2) (js [0,1,3,4,5] rfl ?_));refine jl (λU W=>.v λE=>.st [(12,xA (U:Int)),(3,oK b1),(5,oK P),(6,oK e),(9,Q),(11,oK f)] [rl 1 xF 2 E W,bx f [xA 0,E,kW,kW,kW] 62,rw N0 1 (kP 1 xF) 58 Q T.2,bx e [xA 0,kW,kW,kW,kW] 62,bx P [xA i.arity,v4] 85]) ⟨_,ls⟩ (λ_ W _ q1 E=>?_) (λU _ _ h y1 _=>?_)
  ·have l1:=oU q1;refine xR (jA 2 rfl (jLc (λH=>H.r 2 rfl) λ_=>xC 1 rfl (kJ l1 (xN (js [0,1,3] rfl ?_)))));exact jf ⟨_,ls⟩
  refine xR (jA 2 rfl (jLc (λH=>H.r 2 rfl) λX=>xC 1 rfl (kO (xX h) (xY ?_))));have j1:=dS (Ah h) X;refine zK (jB λz5 c5=>(jB λz6 c6=>(js [1,2,0,3,4] rfl (jh (λH=>H.mg) (cZ λ_ _ _ _ Y Z a1 _=>(jD (kB 0 rfl e2 (iG 1 rfl Y.l.bk e2 (kB 2 rfl e2 (iG 3 rfl (S.lf Z) e2 ?_))))))))));refine zF [4,5] rfl (pQ 6 rfl Y.r.rd y1 λ_ h4=>rK 7 rfl h4 λ_ h5=>jE 8 rfl (jk (λH=>xJr z5 c5 _ aA d (vU.b (H.g 2 rfl).bk M (H.a (Z (A O)))) (H.a h5)) λa2=>qK (jE 9 rfl (lQ (λH=>Eo.int a2) λ_=>qK (jF9 10 rfl (js [1,0,2,3] rfl ?_))))));refine jPL c6 λv9=>kD (jF9 11 rfl (xZ e2 (kD (jF9 12 rfl (aI a1 (jh (λH=>H.um) (jW (hv:=(λH=>(H.l 2 rfl).one)) e3 (kD (iT ?_)))))))));refine aH (jo rfl (xU (qG h X) (xC 1 rfl (js [2,0,1,3,4] rfl ?_))));exact jg ⟨_,ls⟩
 refine oO (aG 1 e3 (js [2,0,1] rfl ?_));refine zX (hv:=(λH=>oc rfl (oc (H.l 1 rfl).one (oc rfl (oc rfl (oc rfl on)))))) e3 (xS 1 rfl (aI I (jh (λH=>H.um) ?_)));exact nJ (λH=>(H.nl 3 oD 225).s [4,0] rfl rfl) (dA 2 e2) (rt rfl) ⟨_,_,xO,xO,lv⟩
def gD (x:A6) (c:Con) (h d y i:Int):Option Bool:= oZ (σ:=Bool) (xG (dG c.scope h) λt=>if (!t) then  xG (dG c.scope d) λz=>some (.nx (!z)) else  some (.nx false)) λA=>if A then some true else xG (ix x.rels c.rel) λB=>oZ (σ:=Unit) (oM (λH (e:(List Int)) s=>match s with | _=>xG (gJ c e) λC=>oZ (σ:=Bool) (oM (λj (f:Int) D=>oZ (σ:=Bool) (if (f==h) then  xG (ix e (j:Int)) λp=>if (p != y) then  some (.nx true) else  if (f==d) then  some (.nx (p != i)) else  some (.nx false) else  if (f==d) then  xG (ix e (j:Int)) λE=>some (.nx (E != i)) else  some (.nx false)) λF=>if F then some (.go false) else some (.go D)) c.scope 0 C) λG=>if G then some (.ret true) else some (.go ())) B.tuples 0 ()) λ_=>some false
theorem xIg {I K e f h i} (r) (hR:gD I K e f h i=some r) {t j} (x) (hN:HN B x) (L:Bo B x (Pt 2 xB) t I) (c:Bo B x (Pt 2 vS) j K) (Q:xL e) (R:xL f) (bj:xL h) (bm:xL i):CG B x 114 #[t,j,xA e,xA f,xA h,xA i] (.st (.bool r) λD=>D):=by
 unfold gD at hR
 revert r
 refine vM func114 [(0,t),(1,j),(2,xA e),(3,xA f),(4,xA h),(5,xA i)] hN λr=>?_;refine xI (jo rfl (nE (qZ (λs1=>.st [(0,t),(1,j),(2,xA e),(3,xA f),(4,xA h),(5,xA i),(32,.bool s1)] []) ?_ (λ_=>?_))))
 ·
  refine lP (jo rfl (jN c (aF c vS.f1 λ_ h1=>aR h1 λ_ h2=>jo rfl (jB λS c1=>(jk (λH=>rT S c1 _ aA (H.a h2) Q) (jA 2 rfl (fD 24 (λ_=>?_) (λ_=>?_))))))))
  ·refine jo rfl (jN c (aF c vS.f1 λ_ h3=>aR h3 λ_ h4=>jo rfl (jB λz1 c2=>(jk (λH=>rT z1 c2 _ aA (H.a h4) R) (xC 2 rfl ?_)))));exact jf ls
  refine xC 8 rfl ?_;exact jf ls
 refine eD (xT ?_ ?_)
 ·refine xI (oE 1 rfl ?_);exact qT (rt rfl) lv
 refine xY (jQ (zA 1 rfl (jqN L (cI L xB.f1 λ_ h5=>eZ h5 λ_ h6=>zA 1 rfl (jqN c (cI c vS.f0 λ_ h7=>kI h7 λ_=>jB λz2 c3=>?_))))));refine lM h6 c3 λy d=>zA 1 rfl (nD (cF (xC 1 rfl (qZ (λ_=>.st [] []) ?_ (λ_=>?_)))))
 ·
  refine zK (jl (λp _=>.st [(14,xA (p:Int)),(1,j),(2,xA e),(3,xA f),(4,xA h),(5,xA i),(13,y)] []) ls (λ_ _ _ q1=>?_) (λp _ _ C z=>?_))
  ·have l1:=oU q1;refine xR (jA 2 rfl (jN d (aF d oQ.f1 λ_ h9=>aR h9 λ_ T=>jL T λ_=>xC 1 rfl (kJ l1 (xN ?_)))));exact jf ls
  refine xR (jA 2 rfl (jN d (aF d oQ.f1 λ_ U=>aR U λ_ W=>jL W λM=>xC 1 rfl (kO (xX C) (xY ?_)))));have j1:=dS (Ah C) M;refine qE (jA 2 rfl (jN d (aF d oQ.f1 λ_ X=>aR X λ_ Y=>jo rfl (jI Y z λ_ Z=>aR Z λ_ a0=>jB λz3 c4=>(jk (λH=>xAk z3 c4 _ aA (H.a c) (H.a a0)) (jo rfl ?_))))));refine dZ (xC 1 rfl (qZ (λs2=>.st [(1,j),(2,xA e),(3,xA f),(4,xA h),(5,xA i),(13,y),(14,xA (p:Int)),(15,.bool s2)] []) ?_ (λ_=>?_)))
  ·
   refine zK (jl (λF A=>.st [(16,xA (F:Int)),(1,j),(2,xA e),(3,xA f),(4,xA h),(5,xA i),(13,y),(14,xA (p:Int)),(15,.bool A)] []) ls (λ_ A _ q2=>?_) (λF x6 A E G=>?_))
   ·have l2:=oU q2;refine xR (jA 2 rfl (jN c (aF c vS.f1 λ_ a1=>aR a1 λ_ a2=>jL a2 λ_=>xC 1 rfl (kJ l2 (xN ?_)))));exact jf ls
   refine xR (jA 2 rfl (jN c (aF c vS.f1 λ_ a3=>aR a3 λ_ a4=>jL a4 λN=>xC 1 rfl (kO (xX E) (xY ?_)))));have j2:=dS (Ah E) N;have O:=qG E N;refine uV (qZ (λs4=>.st [(1,j),(2,xA e),(3,xA f),(4,xA h),(5,xA i),(13,y),(14,xA (p:Int)),(15,.bool A),(16,xA (F:Int)),(116,.bool s4)] []) ?_ (λ_=>?_))
   ·
    refine lP (jo rfl (jN c (aF c vS.f1 λ_ a5=>aR a5 λ_ a6=>jo rfl (jI a6 G λ_ a7=>aP a7 λ_=>jA 3 rfl (fD 78 (λ_=>?_) (λ_=>?_))))))
    ·
     refine jo rfl (jN d (aF d oQ.f1 λ_ a8=>aR a8 λ_ a9=>jo rfl (jI a9 z λ_ aa=>aR aa λ_ ab=>jo rfl (jB λz4 P=>(jI ab P λ_ ac=>aP ac (λ_=>?_))))));refine jA 4 rfl (fD 92 (λ_=>?_) (λ_=>?_))
     ·refine xC 24 rfl ?_;exact jf ls
     refine jo rfl (jN c (aF c vS.f1 λ_ ad=>aR ad λ_ ae=>jo rfl (jI ae G λ_ af=>aP af λ_=>jA 3 rfl (fD 102 (λ_=>?_) (λ_=>?_)))))
     ·refine jo rfl (jN d (aF d oQ.f1 λ_ ag=>aR ag λ_ ah=>jo rfl (jI ah z λ_ ai=>aR ai λ_ aj=>jo rfl (jI aj P λ_ ak=>aP ak λ_=>jA 4 rfl ?_))));refine kD ?_;exact jf ls
     refine xC 14 rfl ?_;exact jf ls
    refine jA 15 rfl (jN c (aF c vS.f1 λ_ al=>aR al λ_ am=>jo rfl (jI am G λ_ an=>aP an λ_=>jA 3 rfl (fD 102 (λ_=>?_) (λ_=>?_)))))
    ·refine jo rfl (jN d (aF d oQ.f1 λ_ ao=>aR ao λ_ aq=>jo rfl (jI aq z λ_ ar=>aR ar λ_ au=>jo rfl (jB λz5 c6=>(jI au c6 λ_ av=>aP av (λ_=>?_))))));refine xC 4 rfl ?_;exact jf ls
    refine xC 14 rfl ?_;exact jf ls
   refine eD (xT ?_ ?_)
   ·refine lP (kZ 1 rfl (jo rfl (xU O (xC 1 rfl ?_))));exact jg ls
   refine qJ (jo rfl (xU O (xC 1 rfl ?_)));exact jg ls
  refine oO (xC 1 rfl (xT ?_ ?_))
  ·refine xI (oY 1 rfl (fZ (zR (fH (lD ?_)))));exact qT (rt rfl) lv
  refine qJ (jo rfl (xU (qG C M) (xC 1 rfl ?_)));exact jg ls
 refine oO (xS 1 rfl ?_);exact qT (rt rfl) lv
def lA (N:Nat) (d:A6) (f:A7):Option (List Rel):= oZ (σ:=List Rel) (qM (λi B=>oZ (σ:=List Rel) (qM (λC D=>oZ (σ:=Int×(List (List Int))) (mL (λs=>match s with | (c,h)=>xG (ck (d.size*d.size)) λE=>if (decide (c<E)) then xG (dv c d.size) λj=>xG (rm c d.size) λp=>oZ (σ:=Bool×Int) (mL (λs=>match s with | (t,e)=>oZ (σ:=Bool) (if (decide (e<(f.cons.length:Int))) then  some (.nx t) else  some (.nx false)) λF=>if F then xG (ix f.cons e) λG=>xG (gD d G (C:Int) (1+(i:Int)) j p) λH=>xG (ck (e+1)) λI=>some (.go (H,I)) else some (.brk (t,e))) N (true,0)) λ(K,Q)=>if K then xG (ap h ([[j,p]])) λL=>xG (ck (c+1)) λM=>some (.go (M,L)) else xG (ck (c+1)) λO=>some (.go (O,h)) else some (.brk (c,h))) N (0,[])) λ(P,x)=>xG (ap D ([(Rel.mk 2 x)])) λy=>some (.go y)) (1+(i:Int)).toNat 0 B) λz=>some (.go z)) (f.vars - 1).toNat 0 []) λA=>some A
theorem xIb {X Y} (r) (hR:lA N X Y=some r) {d e} (G) (hN:HN B G) (h:Bo B G (Pt 2 xB) d X) (p:Bo B G (Pt 2 xH) e Y):CG B G 68 #[d,e] (.v λU=>.st (U) λD=>rl 2 oQ 80 U r::D):=by
 unfold lA at hR
 revert r
 refine vM func68 [(0,d),(1,e)] hN λr=>?_;refine xI (xM 1 rfl (jR0 oQ λv2=>xK 1 rfl (xC 1 rfl (qZ (λs1=>.v λO=>.st [(5,O)] [rl 2 oQ 80 O s1]) ?_ (λ_ O=>?_)))))
 ·
  refine zK ?_;refine jc (λi P=>.v λI=>.st [(6,xA (1+(i:Int))),(0,d),(1,e),(5,I)] [rl 2 oQ 80 I P]) ⟨_,ls⟩ (λ_ P _ z I=>?_) (λ_ i P z I=>?_)
  ·have l1:=yG z;refine xR (jA 2 rfl (jN p (aF p xH.f0 λ_ h1=>aP h1 λ_=>xC 1 rfl (kJ l1 (xN ?_)))));exact jf ⟨_,ls⟩
  refine xR (jA 2 rfl (jN p (aF p xH.f0 λ_ h2=>aP h2 λZ=>xC 1 rfl (kO (tN z) (xY ?_)))));have j2:=xVp z zL Z;have m1:=xHc z zL Z;refine qE (xC 1 rfl (qZ (λs3=>.v λQ=>.st [(0,d),(1,e),(5,Q),(6,xA (1+(i:Int)))] [rl 2 oQ 80 Q s3]) ?_ (λs3 Q=>?_)))
  ·
   refine zK ?_;refine jc (λx t=>.v λc=>.st [(7,xA (x:Int)),(0,d),(1,e),(5,c),(6,xA (1+(i:Int)))] [rl 2 oQ 80 c t]) ⟨_,ls⟩ (λ_ t _ A c=>?_) (λ_ x t A c=>?_)
   ·have l2:=vD A;refine xR (xC 3 rfl (kJ l2 (xN ?_)));exact jf ⟨_,ls⟩
   refine xR (xC 3 rfl (kO (qP A) (xY (qE (oV e5 (aK rfl λf=>zX e3 (dZ (jo rfl ?_))))))));refine kD ?_;refine qZ (λ(s5,s6)=>.v λv7=>.fa (xL s5) <| .st [(0,d),(1,e),(5,c),(6,xA (1+(i:Int))),(7,xA (x:Int)),(8,oK f)] [rl 1 (kP 1 xF) 58 v7 s6,bx f [xA 2,v7] 80,rl 2 oQ 80 c t]) ?_ (λ(s5,s6) _ _=>?_)
   ·
    refine zK (jh (λH=>H.nl 1 (kP 1 xF) 58) ?_);refine jw (λ(y,C)=>.v λj=>.fa (xL y) <| .st [(0,d),(1,e),(5,c),(6,xA (1+(i:Int))),(7,xA (x:Int)),(8,oK f),(9,xA y)] [rl 1 (kP 1 xF) 58 j C,bx f [xA 2,j] 80,rl 2 oQ 80 c t]) ⟨_,xO,ls⟩ (λ_ (y,C) j R=>?_);refine xRj (jQ (zA 2 rfl (jqN h (cI h xB.f0 λ_ h3=>kI h3 λ_=>zA 1 rfl (jqN h (cI h xB.f0 λ_ h4=>kI h4 λ_=>jB λz1 c1=>?_))))));refine jqv (λF H w l=>yB F rfl rfl c1) (zA 1 rfl (nD (eD (xT ?_ ?_))))
    ·
     refine nK (jA 2 rfl (jN h (aF h xB.f0 λ_ h5=>aP h5 λ_=>jB λK S=>(xRi S (xM 1 rfl (jA 2 rfl (jN h ?_)))))));refine aF h xB.f0 λ_ h6=>aP h6 λi3=>jB λL T=>(xNy T (xM 1 rfl (xK 1 rfl (xC 1 rfl ?_))));refine qZ (λ(s9,W)=>.fa (xL W) <| .st [(0,d),(1,e),(5,c),(6,xA (1+(i:Int))),(7,xA (x:Int)),(8,oK f),(9,xA y),(10,xA K),(11,xA L),(12,.bool s9)] [rl 1 (kP 1 xF) 58 j C,bx f [xA 2,j] 80,rl 2 oQ 80 c t]) ?_ (λ(s9,W) _=>?_)
     ·
      refine zK ?_;refine jw (λ(M,E)=>.fa (xL E) <| .st [(0,d),(1,e),(5,c),(6,xA (1+(i:Int))),(7,xA (x:Int)),(8,oK f),(9,xA y),(10,xA K),(11,xA L),(12,.bool M),(13,xA E)] [rl 1 (kP 1 xF) 58 j C,bx f [xA 2,j] 80,rl 2 oQ 80 c t]) ⟨xO,ls⟩ (λ_ (M,E) i4=>?_);refine xRj ?_;refine qZ (λa9=>.st [(0,d),(1,e),(5,c),(6,xA (1+(i:Int))),(7,xA (x:Int)),(8,oK f),(9,xA y),(10,xA K),(11,xA L),(12,.bool M),(13,xA E),(63,.bool a9)] [rl 1 (kP 1 xF) 58 j C,bx f [xA 2,j] 80,rl 2 oQ 80 c t]) ?_ (λ_=>?_)
      ·
       refine lP (jA 2 rfl (jN p (aF p xH.f1 λ_ h7=>aR h7 λ_ h8=>jL h8 λ_=>jA 2 rfl (fD 61 (λ_=>?_) (λ_=>?_)))))
       ·refine xC 2 rfl ?_;exact jf ls
       refine xC 2 rfl ?_;exact jf ls
      refine eD (xT ?_ ?_)
      ·refine xOs (jA 2 rfl (jN p (aF p xH.f1 λ_ h9=>aR h9 λ_ aa=>jo rfl (jB λz4 c4=>(jI aa c4 λ_ ab=>jA 4 rfl (jB λz5 c5=>(jk (λH=>xIg z5 c5 _ aA (H.a h) (H.a ab) (dT A j2) j2 (oCb S) (xGs T R i3)) ?_)))))));refine kZ 1 rfl (jo rfl (jB λz6 c6=>(bN c6 (xC 1 rfl ?_))));exact jg ⟨(kA c6),ls⟩
      refine nS (jbk (wJ ?_));exact jf ⟨i4,ls⟩
     refine oO (xC 1 rfl (xT ?_ ?_))
     ·refine lP (xZ e2 (jb 1 e3 (jA 2 rfl ?_)));refine jRI [K,L] (by simp only[Ai,Ap,Au,implies_true,and_true];exact⟨(oCb S),(xGs T R i3)⟩) λ_=>jh (λH=>H.os) (uL (λH=>El.sl) λ_=>jB λz7 c7=>(js [1,0,2,3] rfl (jPL c7 λv9=>xZ e2 (js [1,0,2] rfl (jW (hv:=(λH=>(H.l 1 rfl).one)) e3 (dQ (jo rfl ?_)))))));refine jB λz8 c8=>(bN c8 (xC 1 rfl (js [1,0,2] rfl ?_)));exact jg ⟨_,(kA c8),ls⟩
     refine qJ (jo rfl (jB λz9 c9=>(bN c9 (xC 1 rfl ?_))));exact jg ⟨_,(kA c9),ls⟩
    refine nS (jbk (wJ ?_));exact jf ⟨_,R,ls⟩
   refine xMt (jo rfl (aG 1 e3 (jh (λH=>oQ.w rH H) (uL (λH=>El.agg) λ_=>jB λb0 ac=>(js [2,0,1] rfl (jPL ac λb1=>kZ 1 rfl (jo rfl ?_)))))));refine xU (vY A j2) (xC 1 rfl (js [0] rfl ?_));exact jg ⟨_,ls⟩
  refine aH (jo rfl (xDk m1 (xC 1 rfl ?_)));exact jg ⟨_,ls⟩
 refine oO (xS 2 rfl ?_);exact j1 (rt rfl) ⟨_,lv⟩
def gH (d c:Int):Option Int:= xG (ck (c - 1)) λe=>xG (ck (c*e)) λf=>xG (dv f 2) λh=>xG (ck (h+d)) λi=>some i
theorem nV {c d} (r) (i:gH c d=some r) (e) (hN:HN B e) (t:xL c) (x:xL d):CG B e 176 #[xA c,xA d] (.fa (xL r) <| .st (xA r) λD=>D):=by
 unfold gH at i
 revert r
 refine vM func176 [(0,xA c),(1,xA d)] hN λr=>?_;refine xI (xM 1 rfl (jA 2 rfl (jB λy j=>(gM j (jB λz p=>(wT p (jB λA h=>(xRi h (jo rfl ?_)))))))));refine jB λC f=>(bN f (xS 1 rfl ?_));exact qT (rt rfl) ⟨(kA f),lv⟩
def aD (e:List Rel) (c d f h:Int):Option Bool:= if (decide (d<c)) then xG (gH d c) λi=>xG (ix e i) λj=>xG (mI j ([h,f])) λp=>some p else xG (gH c d) λt=>xG (ix e t) λx=>xG (mI x ([f,h])) λy=>some y
theorem rB {y e f c d} (r) (A:aD y e f c d=some r) {h} (i) (hN:HN B i) (z:Bo B i (Sl 2 oQ) h y) (j:xL e) (p:xL f) (t:xL c) (x:xL d):CG B i 177 #[h,xA e,xA f,xA c,xA d] (.st (.bool r) λD=>D):=by
 unfold aD at A
 revert r
 refine vM func177 [(0,h),(1,xA e),(2,xA f),(3,xA c),(4,xA d)] hN λr=>?_;refine xI (xK 1 rfl (xC 3 rfl (xT ?_ ?_)))
 ·refine xI (jA 3 rfl (jB λC E=>(jk (λH=>nV C E _ aA p j) λR=>jB λT F=>(jI z F λ_ G=>jA 2 rfl ?_))));refine jRI [d,c] (by simp only[Ai,Ap,Au,implies_true,and_true];exact⟨x,t⟩) λ_=>jB λI K=>(jk (λH=>wL I K _ aA (H.a G) (H.l 0 rfl)) (oE 1 rfl ?_));exact qT (rt rfl) lv
 refine qR (jA 3 rfl (jB λL M=>(jk (λH=>nV L M _ aA j p) λS=>jB λU N=>(jI z N λ_ O=>jA 2 rfl ?_))));refine jRI [c,d] (by simp only[Ai,Ap,Au,implies_true,and_true];exact⟨t,x⟩) λ_=>jB λP Q=>(jk (λH=>wL P Q _ aA (H.a O) (H.l 0 rfl)) (xS 1 rfl ?_));exact qT (rt rfl) lv
def dO (N:Nat) (z:Int) (d:List Rel) (f h i:Int):Option (Bool×(List Rel)):= xG (gH f h) λj=>xG (ix d j) λp=>oZ (σ:=List (List Int)) (oM (λK (e:(List Int)) t=>oZ (σ:=Bool×Int) (mL (λs=>match s with | (x,c)=>oZ (σ:=Bool) (if (decide (c<z)) then  some (.nx (!x)) else  some (.nx false)) λA=>if A then oZ (σ:=Bool) (xG (ix e 0) λB=>xG (aD d f i B c) λC=>if C then  xG (ix e 1) λD=>xG (aD d i h c D) λE=>some (.nx E) else  some (.nx false)) λF=>xG (ck (c+1)) λG=>some (.go (F,G)) else some (.brk (x,c))) N (false,0)) λ(H,L)=>if H then xG (ap t ([e])) λI=>some (.go I) else some (.go t)) p.tuples 0 []) λy=>some ((decide ((y.length:Int)<(p.tuples.length:Int))),(d.set (j).toNat (Rel.mk 2 y)))
theorem xEx {z:Int} {Z:List Rel} {t x A:Int} (r:Bool×(List Rel)) (hR:dO N z Z t x A=some r) {y:Vl} {X0:List Nat} (K:Wd) (hN:HN B K) (S0:Sep X0 B K K [rw B 2 oQ 80 y Z]) (bi:xL z) (O:xL t) (P:xL x) (X:xL A):Calls prog 115 #[xA z,y,xA t,xA x,xA A] K (Gt B K X0 (.st (.bool r.1) λD=>rw B 2 oQ 80 y r.2::D)):=by
 unfold dO at hR
 revert r
 refine jin func115 [(0,xA z),(1,y),(2,xA t),(3,xA x),(4,xA A)] S0 λr=>?_;refine jspl λ_ _ C _ _ _ aa=>(xI (xM 1 rfl (jA 3 rfl (jB λz1 c1=>(jk (λH=>nV z1 c1 _ aA O P) λab=>jB λz2 S=>(cZ λw1 X1 N3 f g1 _ d _=>?_))))));have Y:=g1.rzd;refine jIz g1.zd S λF i=>xM 1 rfl (oV e5 (aK rfl λj=>zX e3 (dZ (xC 1 rfl ?_))));refine qZ (λs1=>.v λM=>.st [(1,y),(2,xA t),(3,xA x),(11,F),(12,oK j)] [rw C 1 (kP 1 xF) 58 M s1,bx j [xA 2,M] 80]) ?_ (λ_ M=>?_)
 ·
  refine zK (jh (λH=>H.nl 1 (kP 1 xF) 58) (jh (λH=>H.lw) (jh (λH=>H.upt (λc h=>h.elim) (λc h=>(d.2.2 c h))) ?_)));refine jl (λG E=>.v λp=>.st [(13,xA (G:Int)),(0,xA z),(1,y),(2,xA t),(3,xA x),(4,xA A),(11,F),(12,oK j)] [rw C 1 (kP 1 xF) 58 p E,bx j [xA 2,p] 80]) ⟨_,ls⟩ (λ_ E _ q1 p=>?_) (λG x5 E Q T p=>?_)
  ·have l1:=oU q1;refine xR (jA 2 rfl (jN (Pz.bo i (λc h=>(d.2.2 c h))) (oDx i oQ.f1 λ_ h2=>oBo h2 λ_ h3=>jL (Bo.to h3 (Sm.symm f)) λ_=>xC 1 rfl (kJ l1 (xN ?_)))));exact jf ⟨_,ls⟩
  refine xR (jA 2 rfl (jN (Pz.bo i (λc h=>(d.2.2 c h))) (oDx i oQ.f1 λ_ h4=>oBo h4 λ_ h5=>jL (Bo.to h5 (Sm.symm f)) λi1=>xC 1 rfl (kO (xX Q) (xY ?_)))));have j2:=dS (Ah Q) i1;have m1:=qG Q i1;refine qE (xK 1 rfl (xC 1 rfl ?_));refine qZ (λ(s3,s4)=>.fa (xL s4) <| .st [(0,xA z),(1,y),(2,xA t),(3,xA x),(4,xA A),(11,F),(12,oK j),(13,xA (G:Int)),(14,.bool s3)] [rw C 1 (kP 1 xF) 58 p E,bx j [xA 2,p] 80]) ?_ (λ(s3,s4) _=>?_)
  ·
   refine zK ?_;refine jw (λ(U,L)=>.fa (xL L) <| .st [(0,xA z),(1,y),(2,xA t),(3,xA x),(4,xA A),(11,F),(12,oK j),(13,xA (G:Int)),(14,.bool U),(15,xA L)] [rw C 1 (kP 1 xF) 58 p E,bx j [xA 2,p] 80]) ⟨xO,ls⟩ (λ_ (U,L) W=>?_);refine xRj ?_;refine qZ (λs7=>.st [(0,xA z),(1,y),(2,xA t),(3,xA x),(4,xA A),(11,F),(12,oK j),(13,xA (G:Int)),(14,.bool U),(15,xA L),(38,.bool s7)] [rw C 1 (kP 1 xF) 58 p E,bx j [xA 2,p] 80]) ?_ (λ_=>?_)
   ·
    refine lP (jA 4 rfl (fD 35 (λ_=>?_) (λ_=>?_)))
    ·refine xC 3 rfl ?_;exact jf ls
    refine xC 3 rfl ?_;exact jf ls
   refine eD (xT ?_ ?_)
   ·
    refine xYg ?_;refine qZ (λs8=>.st [(0,xA z),(1,y),(2,xA t),(3,xA x),(4,xA A),(11,F),(12,oK j),(13,xA (G:Int)),(14,.bool s8),(15,xA L)] [rw C 1 (kP 1 xF) 58 p E,bx j [xA 2,p] 80]) ?_ (λs8=>?_)
    ·
     refine lP (jA 4 rfl (jN (Pz.bo i (λc h=>(d.2.2 c h))) (oDx i oQ.f1 λ_ h6=>oBo h6 λ_ h7=>jo rfl (jI (Bo.to h7 (Sm.symm f)) T λ_ h8=>aR (s:=λH=>(f.trans (Sm.mono H.sm d.2.2))) h8 λ_ h9=>jB λz3 c3=>(jI h9 c3 λ_ ac=>aP (s:=λH=>(f.trans (Sm.mono H.sm d.2.2))) ac (λi3=>?_))))));refine jo rfl (jB λz4 c4=>(jk (λH=>rB z4 c4 _ aA (H.a Y) O X i3 W) (jo rfl (fD 55 (λ_=>?_) (λ_=>?_)))))
     ·refine jA 5 rfl (jN (Pz.bo i (λc h=>(d.2.2 c h))) (oDx i oQ.f1 λ_ ad=>oBo ad λ_ ae=>jo rfl (jI (Bo.to ae (Sm.symm f)) T λ_ af=>aR (s:=λH=>(f.trans (Sm.mono H.sm d.2.2))) af λ_ ag=>jB λz5 c5=>(jI ag c5 λ_ ah=>aP (s:=λH=>(f.trans (Sm.mono H.sm d.2.2))) ah λi4=>jB λz6 c6=>?_))));refine jk (λH=>rB z6 c6 _ aA (H.a Y) X P W i4) (xC 2 rfl ?_);exact jf ls
     refine xC 16 rfl ?_;exact jf ls
    refine aH (jo rfl (jB λz7 c7=>(bN c7 (xC 1 rfl ?_))));exact jg ⟨(kA c7),ls⟩
   refine nS (jbk (wJ ?_));exact jf ⟨W,ls⟩
  refine oO (xC 1 rfl (xT ?_ ?_))
  ·refine jB λz8 c8=>(js [1,0] rfl (cZ λ_ _ _ R g2 _ I _=>(jD (kB 0 rfl e2 (iG 1 rfl g2.bk e2 (zF [2] rfl (jvN 3 rfl (Pz.bo i (λc h=>(d.2.2 c h))) (oKm 4 rfl i oQ.f1 λ_ ai=>oKc (s:=λH w l=>(R.trans (Sm.mono (H.v w l) I.2.2))) 5 rfl ai λ_ aj=>zF [6] rfl ?_))))))));refine pQ 7 rfl (Bo.to aj (Sm.symm f)) T λ_ ak=>rK (s:=λH w l=>(f.trans (Sm.mono (R.trans (Sm.mono (H.v w l) I.2.2)) d.2.2))) 8 rfl ak λ_ al=>jE 9 rfl (jR1 (N1:=C) (λc h=>(I.2.2 c (d.2.2 c h))) (λH=>Eo.sl (Bo.to al (f.trans (Sm.mono (R.trans (Sm.mono H.sm I.2.2)) d.2.2)))) λ_=>qK (jF9 10 rfl (js [1,0] rfl (jP c8 λv4=>kD (jF9 11 rfl (xZ e2 ?_))))));refine kD (jF9 12 rfl ?_);refine aI I (hs:=⟨(λc h=>(d.2.2 c h)),trivial⟩) (jW (hv:=(λH=>(H.r 1 rfl).one)) e3 (kD (iT (aH (jo rfl (xU m1 (xC 1 rfl (js [1,0] rfl ?_))))))));exact jg ⟨_,ls⟩
  refine qJ (jo rfl (xU m1 (xC 1 rfl ?_)));exact jg ⟨_,ls⟩
 refine xMp (jQ (sW e2 (jqb 1 e3 (oIl (λH=>H.r 0 rfl) λ_=>zA 1 rfl (jqN (Pz.bo i (λc h=>(d.2.2 c h))) (oJk i oQ.f1 λ_ am=>oJn am λ_ an=>jqL (Bo.to an (Sm.symm f)) λ_=>zA 2 rfl ?_))))));refine nD (xMp (js [1,0] rfl (cZ λ_ _ _ _ g3 _ ao _=>(jD (zF [0,1,2] rfl (rY 4 rfl g3.bk e2 (jE 3 rfl (jk (λH=>nV z1 c1 _ aA O P) λab=>qK (jF9 5 rfl ?_)))))))));refine aI ao (hs:=⟨(λc h=>(d.2.2 c h)),trivial⟩) (aI d (jh (λH=>H.zw) (jRi 0 S λ_ aq=>kD (jF9 6 rfl (js [0,2,1] rfl ?_)))));refine jSX (vs:=[xA 2,M]) (λH=>.inl ⟨sizeOf80,rfl,(oc rfl (oc (H.r 1 rfl).one on))⟩) (RPt.o aq) (rN S) n1 (λH=>λe q=>(Eo.agg (oQ.m rH q.rd)).tn) rfl (kD (iT (oO (xS 2 rfl ?_))));refine jh (λH=>aa Ab.rw H (Ns.all ⟨n0,trivial⟩)) (js [0] rfl ?_);exact j1 (rt rfl) lv
def jZ (N:Nat) (I:A6) (j:A7) (K:List Rel):Option ((List B2)×(List Rel)):= oZ (σ:=(List B2)×Int×(List Rel)) (mL (λs=>match s with | (c,p,t)=>if (p != (c.length:Int)) then oZ (σ:=(List B2)×(List Rel)) (qM (λd s=>match s with | (L,M)=>oZ (σ:=(List B2)×(List Rel)) (qM (λf s=>match s with | (O,P)=>oZ (σ:=(List B2)×(List Rel)) (qM (λe s=>match s with | (x,h)=>oZ (σ:=(List Rel)×Bool) (if ((e:Int) != (f:Int)) then  if ((e:Int) != (1+(d:Int))) then  xG (dO N I.size h (f:Int) (1+(d:Int)) (e:Int)) λy=>some (.nx (y.2,y.1)) else  some (.nx (h,false)) else  some (.nx (h,false))) λ(i,z)=>if z then xG (ap x ([(B2.mk (f:Int) (1+(d:Int)) (e:Int))])) λQ=>some (.go (Q,i)) else some (.go (x,i))) j.vars.toNat 0 (O,P)) λ(A,B)=>some (.go (A,B))) (1+(d:Int)).toNat 0 (L,M)) λ(C,D)=>some (.go (C,D))) (j.vars - 1).toNat 0 (c,t)) λ(E,F)=>some (.go (E,(c.length:Int),F)) else some (.brk (c,p,t))) N ([],(-1),K)) λ(G,R,H)=>some (G,H)
theorem xIt {x0:A6} {x1:A7} {x2:List Rel} (r:(List B2)×(List Rel)) (hR:jZ N x0 x1 x2=some r) {d:Vl} {e:Vl} {c:Vl} {X0:List Nat} (i:Wd) (hN:HN B i) (S0:Sep X0 B i i [rw B 2 oQ 80 c x2]) (A0:Bo B i (Pt 2 xB) d x0) (h:Bo B i (Pt 2 xH) e x1):Calls prog 69 #[d,e,c] i (Gt B i X0 (.v λU=>.st (U) λD=>rl 3 xP 165 U r.1::rw B 2 oQ 80 c r.2::D)):=by
 unfold jZ at hR
 revert r
 refine jin func69 [(0,d),(1,e),(2,c)] S0 λr=>?_;refine xI (xM 1 rfl (jR0 xP λv3=>xK 1 rfl (xC 1 rfl (qZ (λ(s1,s2,s3)=>.v λM=>.fa (xL s2) <| .st [(2,c),(7,M)] [rl 3 xP 165 M s1,rw B 2 oQ 80 c s3]) ?_ (λ(s1,s2,s3) M _=>?_)))))
 ·
  refine zK ?_;refine jw (λ(f,O,s6)=>.v λP=>.fa (xL O) <| .st [(0,d),(1,e),(2,c),(7,P),(8,xA O)] [rl 3 xP 165 P f,rw B 2 oQ 80 c s6]) ⟨_,bC,ls⟩ (λ_ (f,O,s6) P i1=>?_);refine xR (jA 2 rfl (jLc (λH=>H.l 0 rfl) λ_=>xC 1 rfl (xT ?_ ?_)))
  ·
   refine xCj (jo rfl (jLc (λH=>H.l 0 rfl) λi2=>xM 1 rfl (xC 1 rfl (qZ (λ(s7,s8)=>.v λQ=>.st [(0,d),(1,e),(2,c),(7,Q),(8,xA (f.length:Int))] [rl 3 xP 165 Q s7,rw B 2 oQ 80 c s8]) ?_ (λ(s7,s8) Q=>?_)))))
   ·
    refine zK ?_;refine jc (λj (R,F)=>.v λC=>.st [(9,xA (1+(j:Int))),(0,d),(1,e),(2,c),(7,C),(8,xA (f.length:Int))] [rl 3 xP 165 C R,rw B 2 oQ 80 c F]) ⟨_,ls⟩ (λ_ (R,F) _ t C=>?_) (λ_ j (R,F) t C=>?_)
    ·have l1:=yG t;refine xR (jA 2 rfl (jN h (aF h xH.f0 λ_ h1=>aP h1 λ_=>xC 1 rfl (kJ l1 (xN ?_)))));exact jf ⟨_,ls⟩
    refine xR (jA 2 rfl (jN h (aF h xH.f0 λ_ h2=>aP h2 λi3=>xC 1 rfl (kO (tN t) (xY ?_)))));have j2:=xVp t zL i3;have m1:=xHc t zL i3;refine qE (xC 1 rfl (qZ (λ(W,X)=>.v λS=>.st [(0,d),(1,e),(2,c),(7,S),(8,xA (f.length:Int)),(9,xA (1+(j:Int)))] [rl 3 xP 165 S W,rw B 2 oQ 80 c X]) ?_ (λ(W,X) S=>?_)))
    ·
     refine zK ?_;refine jc (λz (G,I)=>.v λE=>.st [(10,xA (z:Int)),(0,d),(1,e),(2,c),(7,E),(8,xA (f.length:Int)),(9,xA (1+(j:Int)))] [rl 3 xP 165 E G,rw B 2 oQ 80 c I]) ⟨_,ls⟩ (λ_ (G,I) _ x E=>?_) (λ_ z (G,I) x E=>?_)
     ·have l2:=vD x;refine xR (xC 3 rfl (kJ l2 (xN ?_)));exact jf ⟨_,ls⟩
     refine xR (xC 3 rfl (kO (qP x) (xY ?_)));have j3:=dT x j2;refine qE (xC 1 rfl (qZ (λ(Y,Z)=>.v λK=>.st [(0,d),(1,e),(2,c),(7,K),(8,xA (f.length:Int)),(9,xA (1+(j:Int))),(10,xA (z:Int))] [rl 3 xP 165 K Y,rw B 2 oQ 80 c Z]) ?_ (λ(Y,Z) K=>?_)))
     ·
      refine zK ?_;refine jc (λT (A,L)=>.v λp=>.st [(11,xA (T:Int)),(0,d),(1,e),(2,c),(7,p),(8,xA (f.length:Int)),(9,xA (1+(j:Int))),(10,xA (z:Int))] [rl 3 xP 165 p A,rw B 2 oQ 80 c L]) ⟨_,ls⟩ (λ_ (A,L) _ y p=>?_) (λ_ T (A,L) y p=>?_)
      ·have l3:=vD y;refine xR (jA 2 rfl (jN h (aF h xH.f0 λ_ h3=>aP h3 λ_=>xC 1 rfl (kJ l3 (xN ?_)))));exact jf ⟨_,ls⟩
      refine xR (jA 2 rfl (jN h (aF h xH.f0 λ_ h4=>aP h4 λi4=>xC 1 rfl (kO (qP y) (xY ?_)))));have j4:=dT y i4;have m2:=vY y i4;refine uV (qZ (λ(a0,a1)=>.st [(0,d),(1,e),(2,c),(7,p),(8,xA (f.length:Int)),(9,xA (1+(j:Int))),(10,xA (z:Int)),(11,xA (T:Int)),(58,.bool a1)] [rl 3 xP 165 p A,rw B 2 oQ 80 c a0]) ?_ (λ(a0,a1)=>?_))
      ·
       refine lP (jA 4 rfl (fD 43 (λ_=>?_) (λ_=>?_)))
       ·
        refine jA 5 rfl (fD 48 (λ_=>?_) (λ_=>?_))
        ·refine jo rfl (jN A0 (aF A0 xB.f0 λ_ h5=>aP h5 λi5=>jA 4 rfl (jB λz1 c1=>(js [1,0] rfl (jko 1 (λK1 H=>xEx z1 c1 _ H.hN K1 i5 j3 j2 j4) (xC 1 rfl (js [1,0] rfl ?_)))))));exact jf ls
        refine xC 10 rfl ?_;exact jf ls
       refine xC 15 rfl ?_;exact jf ls
      refine eD (xT ?_ ?_)
      ·refine lP (jA 4 rfl (oV e5 ?_));refine lQ (λH=>Eo.agg (xP.m j3 j2 j4)) λ_=>jB λz2 c2=>(js [1,0,2] rfl (jPL c2 λb2=>kZ 1 rfl (jo rfl (xU m2 (xC 1 rfl ?_)))));exact jg ⟨_,ls⟩
      refine qJ (jo rfl (xU m2 (xC 1 rfl ?_)));exact jg ⟨_,ls⟩
     refine aH (jo rfl (xU (vY x j2) (xC 1 rfl ?_)));exact jg ⟨_,ls⟩
    refine aH (jo rfl (xDk m1 (xC 1 rfl ?_)));exact jg ⟨_,ls⟩
   refine oAj ?_;exact jg ⟨_,i2,ls⟩
  refine nS (jbk (wJ ?_));exact jf ⟨_,i1,ls⟩
 refine oO (xS 2 rfl ?_);exact j1 (rt rfl) ⟨_,lv⟩
def pV (c:List Rel):Option Bool:= oZ (σ:=Unit) (oM (λe (d:Rel) s=>match s with | _=>if ((d.tuples.length:Int)==0) then some (.ret true) else some (.go ())) c 0 ()) λ_=>some false
theorem xJi {h} (r) (p:pV h=some r) {c} (e) (hN:HN B e) (f:Bo B e (Sl 2 oQ) c h):CG B e 70 #[c] (.st (.bool r) λD=>D):=by
 unfold pV at p
 revert r
 refine vM func70 [(0,c)] hN λr=>?_;refine xI (xK 1 rfl (xC 1 rfl (qZ (λ_=>.st [] []) ?_ (λ_=>?_))))
 ·
  refine zK (jl (λi _=>.st [(3,xA (i:Int)),(0,c)] []) ls (λ_ _ _ t=>?_) (λi _ _ d x=>?_))
  ·have y:=oU t;refine xR (jA 2 rfl (jL f λ_=>xC 1 rfl (kJ y (xN ?_))));exact jf ls
  refine xR (jA 2 rfl (jL f λj=>xC 1 rfl (kO (xX d) (xY ?_))));have j1:=dS (Ah d) j;refine qE (jA 2 rfl (jI f x λ_ z=>aF z oQ.f1 λ_ A=>aR A λ_ C=>jL C λ_=>xC 1 rfl (xT ?_ ?_)))
  ·refine xI (oY 1 rfl (fZ (zR (fH (lD ?_)))));exact qT (rt rfl) lv
  refine qJ (jo rfl (xU (qG d j) (xC 1 rfl ?_)));exact jg ls
 refine oO (xS 1 rfl ?_);exact qT (rt rfl) lv
def fT (N:Nat) (h i:Int) (e:List Rel) (d:List Int) (f:Int):Option Bool:= oZ (σ:=Unit) (oM (λj (p:Int) s=>match s with | _=>xG (aD e (j:Int) (d.length:Int) p f) λt=>if (!t) then some (.ret false) else some (.go ())) d 0 ()) λ_=>oZ (σ:=Int) (mL (λc=>oZ (σ:=Bool) (if (decide (c<i)) then  some (.nx ((d.length:Int)==0)) else  some (.nx false)) λx=>if x then oZ (σ:=Bool) (qM (λy z=>oZ (σ:=Bool) (if z then  some (.nx true) else  xG (aD e 0 c f (y:Int)) λA=>some (.nx A)) λB=>some (.go B)) h.toNat 0 false) λC=>if (!C) then some (.ret false) else xG (ck (c+1)) λD=>some (.go D) else some (.brk c)) N 1) λE=>some true
theorem xKn {c d F h e} (r) (P:fT N c d F h e=some r) {f p} (t) (hN:HN B t) (C:xL c) (a3:xL d) (G:Bo B t (Sl 2 oQ) f F) (A3:Bo B t (Sl 1 xF) p h) (E:xL e):CG B t 116 #[xA c,xA d,f,p,xA e] (.st (.bool r) λD=>D):=by
 unfold fT at P
 revert r
 refine vM func116 [(0,xA c),(1,xA d),(2,f),(3,p),(4,xA e)] hN λr=>?_;refine xI (xM 1 rfl (jo rfl (jL A3 λy=>xK 1 rfl (xC 1 rfl (qZ (λ_=>.st [(0,xA c),(1,xA d),(2,f),(4,xA e),(11,xA (h.length:Int))] []) ?_ (λ_=>?_))))))
 ·
  refine zK (jl (λI _=>.st [(12,xA (I:Int)),(0,xA c),(1,xA d),(2,f),(3,p),(4,xA e),(11,xA (h.length:Int))] []) ls (λ_ _ _ Q=>?_) (λI _ _ x R=>?_))
  ·have S:=oU Q;refine xR (xC 3 rfl (kJ S (xN ?_)));exact jf ls
  refine xR (xC 3 rfl (kO (xX x) (xY (qE (jA 5 rfl (jI A3 R λ_ T=>aP T λO=>jo rfl (jB λU W=>?_)))))));refine jk (λH=>rB U W _ aA (H.a G) (dS (Ah x) y) y O E) (xC 1 rfl (xT ?_ ?_))
  ·refine xI (oY 1 rfl (fZ (zR (fH (lD ?_)))));exact qT (rt rfl) lv
  refine qJ (jo rfl (xU (qG x y) (xC 1 rfl ?_)));exact jg ls
 refine cF (xC 1 rfl (qZ (λX=>.fa (xL X) <| .st [] []) ?_ (λ_ _=>?_)))
 ·
  refine zK ?_;refine jw (λi=>.fa (xL i) <| .st [(0,xA c),(1,xA d),(2,f),(4,xA e),(11,xA (h.length:Int)),(13,xA i)] []) ⟨zL,ls⟩ λ_ i K=>xRj (qZ (λY=>.st [(0,xA c),(1,xA d),(2,f),(4,xA e),(11,xA (h.length:Int)),(13,xA i),(39,.bool Y)] []) ?_ (λ_=>?_))
  ·
   refine lP (jA 4 rfl (fD 36 (λ_=>?_) (λ_=>?_)))
   ·refine xC 3 rfl ?_;exact jf ls
   refine xC 3 rfl ?_;exact jf ls
  refine eD (xT ?_ ?_)
  ·
   refine nK (xK 1 rfl (xC 1 rfl (qZ (λZ=>.st [(0,xA c),(1,xA d),(2,f),(4,xA e),(11,xA (h.length:Int)),(13,xA i),(14,.bool Z)] []) ?_ (λ_=>?_))))
   ·
    refine zK (jc (λz A=>.st [(15,xA (z:Int)),(0,xA c),(1,xA d),(2,f),(4,xA e),(11,xA (h.length:Int)),(13,xA i),(14,.bool A)] []) ls (λ_ A _ j=>?_) (λ_ z A j=>?_))
    ·have l2:=vD j;refine xR (xC 3 rfl (kJ l2 (xN ?_)));exact jf ls
    refine xR (xC 3 rfl (kO (qP j) (xY (zK (qZ (λL=>.st [(0,xA c),(1,xA d),(2,f),(4,xA e),(11,xA (h.length:Int)),(13,xA i),(14,.bool L),(15,xA (z:Int))] []) ?_ (λL=>?_))))))
    ·
     refine lP (jA 2 rfl (fD 48 (λ_=>?_) (λ_=>?_)))
     ·refine xC 7 rfl ?_;exact jf ls
     refine jA 4 rfl (jB λz2 c2=>(jk (λH=>rB z2 c2 _ aA (H.a G) xO K E (dT j C)) (xC 2 rfl ?_)));exact jf ls
    refine aH (jo rfl (xU (vY j C) (xC 1 rfl ?_)));exact jg ls
   refine oO (xC 2 rfl (xT ?_ ?_))
   ·refine xI (oY 1 rfl (fZ (zR (fH (lD ?_)))));exact qT (rt rfl) lv
   refine qJ (jo rfl (jB λz3 M=>(bN M (xC 1 rfl ?_))));exact jg ⟨(kA M),ls⟩
  refine nS (jbk (wJ ?_));exact jf ⟨K,ls⟩
 refine oO (xS 1 rfl ?_);exact qT (rt rfl) lv
def mF (N:Nat) (d e:Int) (i:List Rel):Option ((List Int)×Bool):= oZ (σ:=List Int) (qM (λz f=>oZ (σ:=Int) (mL (λc=>oZ (σ:=Bool) (if (decide (c<d)) then  xG (fT N d e i f c) λj=>some (.nx (!j)) else  some (.nx false)) λp=>if p then xG (ck (c+1)) λt=>some (.go t) else some (.brk c)) N 0) λh=>if (h==d) then some (.ret ([],false)) else xG (ap f ([h])) λx=>some (.go x)) e.toNat 0 []) λy=>some (y,true)
theorem xGy {d e C} (r) (I:mF N d e C=some r) {f} (x) (hN:HN B x) (G:xL d) (t:xL e) (K:Bo B x (Sl 2 oQ) f C):CG B x 71 #[xA d,xA e,f] (.v λA=>.st (.tuple #[A,.bool r.2]) λD=>rl 1 xF 2 A r.1::D):=by
 unfold mF at I
 revert r
 refine vM func71 [(0,xA d),(1,xA e),(2,f)] hN λr=>?_;refine xI (xM 2 rfl (jR0 xF λT=>xK 1 rfl (xC 1 rfl (qZ (λL=>.v λy=>.st [(8,y)] [rl 1 xF 2 y L]) ?_ (λ_ y=>?_)))))
 ·
  refine zK ?_;refine jc (λj h=>.v λc=>.st [(9,xA (j:Int)),(0,xA d),(1,xA e),(2,f),(8,c)] [rl 1 xF 2 c h]) ⟨_,ls⟩ (λ_ h _ i c=>?_) (λ_ j h i c=>?_)
  ·have M:=vD i;refine xR (xC 3 rfl (kJ M (xN ?_)));exact jf ⟨_,ls⟩
  refine xR (xC 3 rfl (kO (qP i) (xY ?_)));have j1:=dT i t;refine qE (xW 1 rfl (qZ (λz=>.fa (xL z) <| .st [(0,xA d),(1,xA e),(2,f),(8,c),(9,xA (j:Int)),(10,xA z)] [rl 1 xF 2 c h]) ?_ (λz O=>?_)))
  ·
   refine zK ?_;refine jw (λp=>.fa (xL p) <| .st [(0,xA d),(1,xA e),(2,f),(8,c),(9,xA (j:Int)),(10,xA p)] [rl 1 xF 2 c h]) ⟨xO,ls⟩ λ_ p E=>xRj (qZ (λP=>.st [(0,xA d),(1,xA e),(2,f),(8,c),(9,xA (j:Int)),(10,xA p),(28,.bool P)] [rl 1 xF 2 c h]) ?_ (λ_=>?_))
   ·
    refine lP (jA 4 rfl (fD 20 (λ_=>?_) (λ_=>?_)))
    ·refine jA 5 rfl (jB λQ R=>(jk (λH=>xKn Q R _ aA G t (H.a K) (H.l 0 rfl) E) (xC 2 rfl ?_)));exact jf ls
    refine xC 8 rfl ?_;exact jf ls
   refine eD (xT ?_ ?_)
   ·refine oGf (jo rfl (jB λU F=>(bN F (jo rfl (xNc ?_)))));exact jg ⟨(kA F),ls⟩
   refine nS (jbk (wJ ?_));exact jf ⟨E,ls⟩
  refine cF (xC 3 rfl (xT ?_ ?_))
  ·refine xI (jR0 xF λW=>jA 2 rfl (rO (fZ (zR (fH (lD (js [0] rfl ?_)))))));exact j2 (rt rfl) (rt rfl) ⟨_,lv⟩
  refine xUh (jA 2 rfl (lQ (λH=>Eo.int O) λ_=>jB λX S=>(js [1,0] rfl (jPL S λY=>kZ 1 rfl (jo rfl (xU (vY i t) (jo rfl ?_)))))));refine kD ?_;exact jg ⟨_,ls⟩
 refine oO (xS 3 rfl ?_);exact j2 (rt rfl) (rt rfl) ⟨_,lv⟩
def dK (N:Nat) (d:A6) (c:A7) (i:Op):Option (B0×Int):= xG (pI N (A6.mk d.size d.rels) (A7.mk c.vars c.cons) (Op.mk i.arity i.table) 7) λj=>if (j != 0) then some ((B0.mk 0 ([]) ([]) ([]) ([])),j) else if (c.vars==1) then xG (mN (A6.mk d.size d.rels) (A7.mk c.vars c.cons)) λp=>xG (nB N (A6.mk d.size d.rels) (A7.mk c.vars c.cons) p) λe=>xG (mS e.2) λt=>if t then some ((B0.mk 1 ([]) e.1 ([]) ([])),0) else xG (ix e.2 0) λx=>xG (ix x 0) λy=>some ((B0.mk 0 ([y]) ([]) ([]) ([])),0) else xG (lA N (A6.mk d.size d.rels) (A7.mk c.vars c.cons)) λz=>xG (jZ N (A6.mk d.size d.rels) (A7.mk c.vars c.cons) z) λf=>xG (pV f.2) λA=>if A then some ((B0.mk 2 ([]) ([]) f.1 ([])),0) else xG (mF N d.size c.vars f.2) λh=>if (!h.2) then some ((B0.mk 0 ([]) ([]) ([]) ([])),6) else some ((B0.mk 0 h.1 ([]) ([]) ([])),0)
theorem yM {C E F} (r) (T:dK N C E F=some r) {j p t} (e) (hN:HN B e) (U:Bo B e (qS 2 xB) j C) (W:Bo B e (qS 2 xH) p E) (X:Bo B e (qS 2 vU) t F):CG B e 37 #[j,p,t] (.v λx=>.v λy=>.v λz=>.fa (xL r.1.kind) <| .fa (xL r.2) <| .st (.tuple #[.agg #[xA r.1.kind,x,y,z,kW],xA r.2]) λD=>rl 1 xF 2 x r.1.values::rl 3 oD 225 y r.1.arcs::rl 3 xP 165 z r.1.pairs::D):=by
 unfold dK at T
 revert r
 refine vM func37 [(0,j),(1,p),(2,t)] hN λr=>?_;refine xI ?_;obtain⟨v3,rfl,c,f⟩:=xB.o U;refine jX e2 (λ_=>?_);obtain⟨ao,rfl,d,h⟩:=xH.o W;refine jX e2 (λ_=>?_);obtain⟨v4,rfl,Y,Z⟩:=vU.o X;refine jX e2 λb1=>aK rfl λb2=>xK 1 rfl (jB λz1 c1=>(jk (λH=>xDb z1 c1 _ aA (xB.b (H.g 3 rfl).bk c (H.a f)) (xH.b (H.g 2 rfl).bk d (H.a h)) (vU.b (H.g 1 rfl).bk Y (H.a Z)) xNf) λP=>xM 1 rfl (xC 2 rfl (xT ?_ ?_))))
 ·refine xI (oV e5 (jo rfl (zX e3 (oE 1 rfl ?_))));exact nJ (λH=>(((H.nl 1 xF 2).nl 3 oD 225).nl 3 xP 165).s [2,1,0] rfl rfl) (dA 0 e2) (rt rfl) ⟨_,_,_,xO,P,lv⟩
 refine vT (xZ e2 (jb 2 e3 (xC 1 rfl (xT ?_ ?_))))
 ·
  refine xI (jB λz2 Q=>(jk (λH=>xAw z2 Q _ aA (xB.b (H.g 3 rfl).bk c (H.a f)) (xH.b (H.g 2 rfl).bk d (H.a h))) λv5=>xM 1 rfl (jo rfl (js [4,3,0,1,2] rfl (jh (λH=>H.mg) (cZ λw1 X1 N1 _ G I A _=>?_))))));have K1:=G.l.bk;have K2:=G.r.bk;refine jB λz3 c2=>(jh (λH=>H.lw) (jko 1 (λK3 H=>xBr z3 c2 _ H.hN K3 (xB.b (K1.to H.sm) c (H.u (I f))) (xH.b (K2.to H.sm) d (H.u (I h)))) λv6=>xK 1 rfl (jo rfl (jB λz4 c3=>(jk (λH=>xBp z4 c3 _ aA (H.r 1 rfl)) (kD (xT ?_ ?_)))))))
  ·refine xI (jo rfl ?_);refine oV (hone:=(λH=>oc rfl (oc (H.l 0 rfl).one on))) e5 (js [2,0,1,3] rfl ?_);refine zX (hv:=(λH=>oc rfl (oc rfl (oc (H.l 1 rfl).one (oc rfl (oc rfl on)))))) e3 (jo rfl (xIx (aI A (jh (λH=>H.um) ?_))));exact nJ (λH=>((H.nl 1 xF 2).nl 3 xP 165).s [1,5,0] rfl rfl) (dA 2 e2) (rt rfl) ⟨_,_,_,zL,xO,lv⟩
  refine qR (jo rfl (jB λz5 c4=>(js [1,0,2,3] rfl (cZ λ_ _ _ _ g2 _ R _=>(jI g2.rd c4 λ_ h4=>aR h4 λ_ h5=>jB λz6 c5=>(jI h5 c5 λ_ h6=>aP h6 λi4=>lQ (λH=>Eo.int i4) (λv7=>?_)))))));refine oV (hone:=(λH=>oc rfl (oc (H.l 0 rfl).one on))) e5 (js [2,0,1,3] rfl ?_);refine zX (hv:=(λH=>oc rfl (oc (H.l 1 rfl).one (oc rfl (oc rfl (oc rfl on)))))) e3 (oE 1 rfl (aI R (aI A (jh (λH=>H.um) ?_))));exact nJ (λH=>((H.nl 3 oD 225).nl 3 xP 165).s [6,1,0] rfl rfl) (dA 3 e2) (rt rfl) ⟨_,_,_,xO,xO,lv⟩
 refine qR (jB λz7 c6=>(jk (λH=>xIb z7 c6 _ aA (xB.b (H.g 3 rfl).bk c (H.a f)) (xH.b (H.g 2 rfl).bk d (H.a h))) λv8=>xM 1 rfl (jo rfl (js [4,3,0,1,2] rfl (jh (λH=>H.mg) (cZ λw2 X2 N2 _ K L i _=>?_))))));have M:=K.l.bk;have O:=K.r.bk;refine jB λz8 c7=>(jh (λH=>H.lw) (jh (λH=>H.wk) (jko 1 (λK6 H=>xIt z8 c7 _ H.hN K6 (xB.b (M.to H.sm) c (H.u (L f))) (xH.b (O.to H.sm) d (H.u (L h)))) λv9=>xK 1 rfl (jo rfl (jB λz9 c8=>(jk (λH=>xJi z9 c8 _ aA (H.r 1 rfl)) (kD (xT ?_ ?_))))))))
 ·refine xI (jo rfl ?_);refine oV (hone:=(λH=>oc rfl (oc (H.l 0 rfl).one on))) e5 (js [2,0,1,3] rfl ?_);refine zX (hv:=(λH=>oc rfl (oc rfl (oc rfl (oc (H.l 1 rfl).one (oc rfl on)))))) e3 (oE 1 rfl (js [0,1,3] rfl (aI i (jh (λH=>H.um) ?_))));exact nJ (λH=>((H.nl 1 xF 2).nl 3 oD 225).s [1,0,5] rfl rfl) (dA 2 e2) (rt rfl) ⟨_,_,_,rH,xO,lv⟩
 refine qR (xZ e2 (jbK M e2 (xZ e2 (jbK O e2 (jo rfl (jB λS c9=>(jk (λH=>xGy S c9 _ aA c d (H.r 1 rfl)) λaq=>xK 5 rfl (jA 2 rfl ?_))))))));refine kD (xT ?_ ?_)
 ·refine xI (oV e5 (js [3,0,1,2,4] rfl (zX e3 (oE 1 rfl (js [0,1,2,4] rfl (aI i (jh (λH=>H.um) ?_)))))));exact nJ (λH=>(((H.nl 1 xF 2).nl 3 oD 225).nl 3 xP 165).s [2,1,0] rfl rfl) (dA 2 e2) (rt rfl) ⟨_,_,_,xO,sS,lv⟩
 refine qR (jo rfl ?_);refine oV (hone:=(λH=>oc rfl (oc (H.l 0 rfl).one on))) e5 (js [3,0,1,2,4] rfl ?_);refine zX (hv:=(λH=>oc rfl (oc (H.l 1 rfl).one (oc rfl (oc rfl (oc rfl on)))))) e3 (xS 1 rfl (js [0,1,2,4] rfl (aI i (jh (λH=>H.um) ?_))));exact nJ (λH=>((H.nl 3 oD 225).nl 3 xP 165).s [5,1,0] rfl rfl) (dA 2 e2) (rt rfl) ⟨_,_,_,xO,xO,lv⟩
def gE (d:Int) (c:A8) (e:List Int):Option Bool:= oZ (σ:=Int) (oM (λf h i=>xG (ix c.left (f:Int)) λj=>xG (ck (j*h)) λp=>xG (ck (i+p)) λt=>some (.go t)) e 0 0) λx=>xG (ck (x - c.right)) λy=>xG (kF y d) λz=>some ((z==0))
theorem xHw {c t x} (r) (I:gE c t x=some r) {d e} (f) (hN:HN B f) (G:xL c) (h:Bo B f (Pt 2 xJ) d t) (j:Bo B f (Sl 1 xF) e x):CG B f 178 #[xA c,d,e] (.st (.bool r) λD=>D):=by
 unfold gE at I
 revert r
 refine vM func178 [(0,xA c),(1,d),(2,e)] hN λr=>?_;refine xI (xM 1 rfl (xK 1 rfl (xC 1 rfl (qZ (λy=>.fa (xL y) <| .st [(0,xA c),(1,d),(7,xA y)] []) ?_ (λ_ _=>?_)))))
 ·
  refine zK ?_;refine jl (λz p=>.fa (xL p) <| .st [(8,xA (z:Int)),(0,xA c),(1,d),(2,e),(7,xA p)] []) ⟨xO,ls⟩ (λ_ p _ K L=>?_) (λz _ _ i M _=>?_)
  ·have N:=oU K;refine xR (jA 2 rfl (jL j λ_=>xC 1 rfl (kJ N (xN ?_))));exact jf ⟨L,ls⟩
  refine xR (jA 2 rfl (jL j λA=>xC 1 rfl (kO (xX i) (xY ?_))));have j1:=dS (Ah i) A;refine zK (jQ (zA 2 rfl (jqN h (cI h xJ.f0 λ_ O=>eZ O λ_ P=>zA 1 rfl (jB λZ Q=>(lM P Q λ_ R=>kI R λ_=>zA 2 rfl ?_))))));refine lM j M λ_ S=>kI S λ_=>jB λz2 T=>(jqv (λF H w l=>yB F rfl rfl T) (jB λz3 C=>(jqv (λF H w l=>wH F rfl rfl C) (zA 1 rfl (nD (aH (jo rfl (xU (qG i A) ?_))))))));refine xC 1 rfl ?_;exact jg ⟨(kA C),ls⟩
 refine oO (jA 2 rfl (jN h (aF h xJ.f1 λ_ U=>aP U λ_=>jB λz4 E=>(gM E (jo rfl (jB λW X=>(jk (λH=>lB W X _ aA (kA E) G) λY=>jA 2 rfl ?_)))))));refine pM ?_;exact qT (rt rfl) lv
def pC (N:Nat) (c d:Int) (h:List (List Int)):Option B1:= xG (qD N c d) λB=>oZ (σ:=Int×Int×(List A8)) (qM (λC s=>match s with | (i,j,p)=>xG (vZ N c d (1+(C:Int))) λf=>oZ (σ:=Int) (qM (λt D=>xG (ix f (t:Int)) λE=>xG (ix h 0) λF=>xG (ix F (t:Int)) λG=>xG (ck (E*G)) λH=>xG (ck (D+H)) λI=>some (.go I)) d.toNat 0 0) λK=>xG (kF K c) λx=>oZ (σ:=Bool) (oM (λS (L:(List Int)) M=>oZ (σ:=Bool) (if M then  xG (gE c (A8.mk f x) L) λO=>some (.nx O) else  some (.nx false)) λP=>some (.go P)) h 0 true) λQ=>if Q then xG (ap p ([(A8.mk f x)])) λy=>xG (fI (B1.mk i j y)) λe=>some (.go (e.prime,e.unknowns,e.list)) else some (.go (i,j,p))) (B - 1).toNat 0 (c,d,[])) λ(R,z,A)=>some ((B1.mk R z A))
theorem xFc {f h x2} (r) (hR:pC N f h x2=some r) {p} (T) (hN:HN B T) (A:xL f) (C:xL h) (K:Bo B T (Sl 1 (kP 1 xF)) p x2):CG B T 117 #[xA f,xA h,p] (.v λa0=>.fa (xL r.prime) <| .fa (xL r.unknowns) <| .st (.agg #[xA r.prime,xA r.unknowns,a0]) λD=>rl 2 xJ 169 a0 r.list::D):=by
 unfold pC at hR
 revert r
 refine vM func117 [(0,xA f),(1,xA h),(2,p)] hN λr=>?_;refine xI (aK rfl λc=>qW (jA 2 rfl (jR0 xJ (λv1=>?_))));refine oV (hone:=(λH=>oc rfl (oc rfl (oc (H.l 0 rfl).one on)))) e5 (aK rfl (λd=>?_));refine zX (hv:=(λH=>oc rfl (oc rfl (oc (H.l 1 rfl).one on)))) e3 (dZ (xC 1 rfl (jB λz1 a1=>?_)));refine qZ (λ(U,W,s3)=>.v λX=>.fa (xL U) <| .fa (xL W) <| .st [(6,oK c),(7,oK d)] [bx d [xA U,xA W,X] 130,rl 2 xJ 169 X s3,bx c [xA 0,xA 0,kW] 130]) ?_ (λ(U,W,s3) X i1 i2=>?_)
 ·
  refine zK ?_;refine jc (λz (t,x,y)=>.v λe=>.fa (xL t) <| .fa (xL x) <| .st [(8,xA (1+(z:Int))),(0,xA f),(1,xA h),(2,p),(6,oK c),(7,oK d)] [bx d [xA t,xA x,e] 130,rl 2 xJ 169 e y,bx c [xA 0,xA 0,kW] 130]) ⟨_,A,C,ls⟩ (λ_ (t,x,y) _ G e L M=>?_) (λ_ z (t,x,y) G e L M=>?_)
  ·have l1:=yG G;refine xR (jA 3 rfl (jk (λH=>zH z1 a1 _ aA A C) λP=>xC 1 rfl (kJ l1 (xN ?_))));exact jf ⟨_,L,M,ls⟩
  refine xR (jA 3 rfl (jk (λH=>zH z1 a1 _ aA A C) λP=>xC 1 rfl (kO (tN G) (xY ?_))));have j1:=xVp G zL P;have m1:=xHc G zL P;refine qE (jA 3 rfl (jB λE c1=>(jk (λH=>bM E c1 _ aA A C j1) (λi=>?_))));refine oV (hone:=(λH=>oc (H.l 0 rfl).one on)) e5 (aK rfl (λj=>?_));refine zX (hv:=(λH=>oc (H.l 1 rfl).one (oc rfl on))) e3 (dZ (xC 1 rfl ?_));refine qZ (λs7=>.fa (xL s7) <| .st [(0,xA f),(1,xA h),(2,p),(6,oK c),(7,oK d),(8,xA (1+(z:Int))),(9,oK j)] [bx j [i,xA s7] 169,rl 1 xF 2 i E,bx d [xA t,xA x,e] 130,rl 2 xJ 169 e y,bx c [xA 0,xA 0,kW] 130]) ?_ (λ_ i5=>?_)
  ·
   refine zK ?_;refine jc (λk2 Y=>.fa (xL Y) <| .st [(10,xA (k2:Int)),(0,xA f),(1,xA h),(2,p),(6,oK c),(7,oK d),(8,xA (1+(z:Int))),(9,oK j)] [bx j [i,xA Y] 169,rl 1 xF 2 i E,bx d [xA t,xA x,e] 130,rl 2 xJ 169 e y,bx c [xA 0,xA 0,kW] 130]) ⟨xO,ls⟩ (λ_ Y _ I i6=>?_) (λ_ k2 _ I _=>?_)
   ·have l2:=vD I;refine xR (xC 3 rfl (kJ l2 (xN ?_)));exact jf ⟨i6,ls⟩
   refine xR (xC 3 rfl (kO (qP I) (xY ?_)));have j2:=dT I C;refine zK (jB λz3 c2=>(jB λz4 c3=>(jB λz5 c4=>(jB λz6 c5=>(jB λz7 c6=>(jh (λH=>H.mg) (cZ λ_ _ _ a2 g1 _ Q _=>?_)))))));have K1:=g1.l.bk;refine jD (kB 0 rfl e2 (iG 1 rfl K1 e2 (kB 2 rfl e2 (iG 3 rfl K1 e2 (zF [4] rfl (pQ 5 rfl g1.r.ld c2 λ_ h1=>aW 6 rfl h1 λ_=>zF [7] rfl (pQ 8 rfl K c3 λ_ h2=>rK (s:=λH w l=>(a2.trans (Sm.mono (H.v w l) Q.2.2))) 9 rfl h2 (λ_ h3=>?_))))))));refine zF [10] rfl (pQ 11 rfl h3 c4 λ_ h4=>aW (s:=λH w l=>(a2.trans (Sm.mono (H.v w l) Q.2.2))) 12 rfl h4 λ_=>jvz 13 rfl (λF H w l=>yB F rfl rfl c5) (jF9 14 rfl (bN c6 (kD (jF9 15 rfl (xZ e2 (kD (jF9 16 rfl ?_))))))));refine aI Q (jh (λH=>H.um) (jW e3 (kD (iT (aH (jo rfl (xU (vY I C) (xC 1 rfl ?_))))))));exact jg ⟨(kA c6),ls⟩
  refine oO (xZ e2 (jb 0 e3 (jo rfl (jB λO c7=>(jk (λH=>lB O c7 _ aA i5 A) λa3=>xZ e2 (jW e3 (qW (xK 1 rfl ?_))))))));refine xC 1 rfl ?_;refine qZ (λs9=>.st [(0,xA f),(1,xA h),(2,p),(6,oK c),(7,oK d),(8,xA (1+(z:Int))),(9,oK j),(11,.bool s9)] [bx j [i,xA O] 169,rl 1 xF 2 i E,bx d [xA t,xA x,e] 130,rl 2 xJ 169 e y,bx c [xA 0,xA 0,kW] 130]) ?_ (λ_=>?_)
  ·
   refine zK ?_;refine jl (λZ R=>.st [(12,xA (Z:Int)),(0,xA f),(1,xA h),(2,p),(6,oK c),(7,oK d),(8,xA (1+(z:Int))),(9,oK j),(11,.bool R)] [bx j [i,xA O] 169,rl 1 xF 2 i E,bx d [xA t,xA x,e] 130,rl 2 xJ 169 e y,bx c [xA 0,xA 0,kW] 130]) ls (λ_ R _ q1=>?_) (λZ _ R S y1=>?_)
   ·have l3:=oU q1;refine xR (jA 2 rfl (jL K λ_=>xC 1 rfl (kJ l3 (xN ?_))));exact jf ls
   refine xR (jA 2 rfl (jL K λi7=>xC 1 rfl (kO (xX S) (xY ?_))));have j3:=dS (Ah S) i7;refine zK ?_;refine qZ (λa4=>.st [(0,xA f),(1,xA h),(2,p),(6,oK c),(7,oK d),(8,xA (1+(z:Int))),(9,oK j),(11,.bool a4),(12,xA (Z:Int))] [bx j [i,xA O] 169,rl 1 xF 2 i E,bx d [xA t,xA x,e] 130,rl 2 xJ 169 e y,bx c [xA 0,xA 0,kW] 130]) ?_ (λa4=>?_)
   ·
    refine lP (jA 2 rfl (fD 62 (λ_=>?_) (λ_=>?_)))
    ·refine jA 3 rfl (jI K y1 λ_ h5=>aR h5 λ_ h6=>jB λz9 c8=>(jk (λH=>xHw z9 c8 _ aA A (xJ.b (H.g 0 rfl).bk (H.l 1 rfl) a3) (H.a h6)) (xC 2 rfl ?_)));exact jf ls
    refine xC 8 rfl ?_;exact jf ls
   refine aH (jo rfl (xU (qG S i7) (xC 1 rfl ?_)));exact jg ls
  refine oO (xC 1 rfl (xT ?_ ?_))
  ·refine xI (xZ e2 (jb 2 e3 (aG 0 e3 (js [1,0,2,3,4] rfl (jh (λH=>xJ.w a3 H) (uL (λH=>El.agg) λ_=>jB λbc c9=>(js [3,0,1,2,4] rfl (jPL c9 λ_=>xZ e2 ?_))))))));refine js [2,0,1,3] rfl (jW (hv:=(λH=>(H.l 1 rfl).one)) e3 (lT (jB λaf ag=>(jk (λH=>xFm af ag _ aA (oR.b (H.g 0 rfl).bk L M (H.l 1 rfl))) λv6 i8 i9=>js [1,0,2,3,4] rfl ?_))));refine zX (hv:=(λH=>oc rfl (oc rfl (oc (H.l 1 rfl).one on)))) e3 (dQ (jo rfl (xDk m1 (xC 1 rfl (js [0,1,4] rfl ?_)))));exact jg ⟨_,i8,i9,ls⟩
  refine qJ (jo rfl (xDk m1 (xC 1 rfl (js [2,3,4] rfl ?_))));exact jg ⟨_,L,M,ls⟩
 refine oO (aG 0 e3 (js [2,0,1] rfl ?_));refine zX (hv:=(λH=>oc rfl (oc rfl (oc (H.l 2 rfl).one on)))) e3 (pM ?_);exact j1m (λH=>H.s [2] rfl rfl) (dA 0 e2) ⟨_,i1,i2,lv⟩
end Go.Proofs.YtnjlbbfcngjhmaaGreat
