import Derived.Test.YtnjlbbfcngjhmaaGreatP5
namespace Go.Proofs.YtnjlbbfcngjhmaaGreat
set_option linter.unusedVariables false
set_option linter.unusedSimpArgs false
open Go.Proofs.Tryz
set_option maxHeartbeats 1000000
set_option maxRecDepth 100000
open Go.RowKit
variable {B:Nat->Prop} {N:Nat}
def vA (c d:Int):Option Int:= oZ (σ:=Int) (qM (λi e=>xG (ck (e*c)) λf=>some (.go f)) d.toNat 0 1) λh=>some h
theorem zU {d e} (r) (x:vA d e=some r) (j) (hN:HN B j) (C:xL d) (h:xL e):CG B j 185 #[xA d,xA e] (.fa (xL r) <| .st (xA r) λD=>D):=by
 unfold vA at x
 revert r
 refine vM func185 [(0,xA d),(1,xA e)] hN λr=>?_;refine xI (xM 1 rfl (xK 1 rfl (xC 2 rfl (qZ (λp=>.fa (xL p) <| .st [(5,xA p)] []) ?_ (λ_ y=>?_)))))
 ·
  refine zK ?_;refine jc (λt f=>.fa (xL f) <| .st [(7,xA (t:Int)),(0,xA d),(5,xA f),(6,xA e)] []) ⟨zL,ls⟩ (λ_ f _ c z=>?_) (λ_ t _ c _=>?_)
  ·have A:=vD c;refine xI (xW 1 rfl (kJ A (xN ?_)));exact jf ⟨z,ls⟩
  refine xI (xW 1 rfl (kO (qP c) (xY ?_)));have j1:=dT c h;refine xAp (jA 2 rfl (jB λE i=>(wT i (kZ 1 rfl (xU (vY c h) (xC 1 rfl ?_))))));exact jg ⟨(kA i),ls⟩
 refine oO (xS 2 rfl ?_);exact qT (rt rfl) ⟨y,lv⟩
def qQ (N:Nat) (f h i:Int):Option (List Int):= xG (pN (0:Int) h) λj=>xG (ck (h - 1)) λp=>oZ (σ:=Int×Int×(List Int)) (mL (λs=>match s with | (e,c,d)=>if (decide (0<=c)) then xG (rm e f) λt=>xG (ix d c) λA=>xG (dv e f) λx=>xG (ck (c - 1)) λy=>some (.go (x,y,(d.set (c).toNat t))) else some (.brk (e,c,d))) N (i,p,j)) λ(B,C,z)=>some z
theorem lC {c d e} (r) (P:qQ N c d e=some r) (y) (hN:HN B y) (L:xL c) (T:xL d) (M:xL e):CG B y 186 #[xA c,xA d,xA e] (.v λp=>.st (p) λD=>rl 1 xF 2 p r::D):=by
 unfold qQ at P
 revert r
 refine vM func186 [(0,xA c),(1,xA d),(2,xA e)] hN λr=>?_;refine xI (xM 1 rfl (jo rfl (jB λU Q=>?_)));refine jRM (R:=xF) (λw=>⟨rfl,by decide,rfl⟩) Q λW=>xK 1 rfl (jo rfl (jB λX t=>(gM t (xC 1 rfl (qZ (λ(z,A,C)=>.v λf=>.fa (xL z) <| .fa (xL A) <| .st [(7,f)] [rl 1 xF 2 f C]) ?_ (λ(z,A,C) f _ _=>?_))))))
 ·
  refine zK ?_;refine jw (λ(h,i,x)=>.v λj=>.fa (xL h) <| .fa (xL i) <| .st [(0,xA c),(2,xA h),(7,j),(8,xA i)] [rl 1 xF 2 j x]) ⟨_,M,(kA t),ls⟩ (λ_ (h,i,x) j E S=>?_);refine xR (xC 2 rfl (xT ?_ ?_))
  ·refine nK (jA 4 rfl (jB λY F=>(xNy F (jB λZ G=>(jRl 0 G λ_ O=>jh (λH=>H.lw) (jS O (dL G) (λH=>Eo.int (xGs F E L)) rfl (jh (λH=>H.tl) (lT (jA 2 rfl ?_)))))))));refine jB λz5 I=>(xRi I (kZ 1 rfl (jo rfl (jB λz6 K=>(gM K (xC 1 rfl ?_))))));exact jg ⟨_,(oCb I),(kA K),ls⟩
  refine nS (jbk (wJ ?_));exact jf ⟨_,E,S,ls⟩
 refine oO (xS 2 rfl ?_);exact j1 (rt rfl) ⟨_,lv⟩
def tM (N:Nat) (d c:Int) (e:(List Int)->Option Int):Option Op:= xG (vA d c) λf=>oZ (σ:=List Int) (qM (λh i=>xG (qQ N d c (h:Int)) λj=>xG (e j) λp=>xG (ap i ([p])) λt=>some (.go t)) f.toNat 0 []) λx=>some ((Op.mk c x))
theorem xHt {f c F} (r) (R:tM N f c F=some r) {d h} (i) (hN:HN B i) (z:xL f) (t:xL c) (O:∀ args w,(callFunc d args).run prog w= .ok (.enter d args) w) (P:∀ (G:List Int) (r:Int),F G=some r->∀ W,Below i.heap.size i W->∀ (I:Vl),Bo (All W) W (Sl 1 xF) I G->Calls prog d ([I]++h:List Vl).toArray W (Gt (All W) W [] (.fa (xL r) <| .st (xA r) λD=>D))):CG B i 129 #[xA f,xA c,.func (.func d) #[] h.toArray] (.v λA=>.fa (xL r.arity) <| .st (.agg #[xA r.arity,A]) λD=>rl 1 xF 2 A r.table::D):=by
 unfold tM at R
 revert r
 refine vM func129 [(0,xA f),(1,xA c),(2,.func (.func d) #[] h.toArray)] hN λr=>?_;refine xI (aK rfl λj=>qW (jo rfl (oV e5 (aK rfl λp=>zX e3 (dZ (jA 2 rfl (jB λK S=>(jk (λH=>zU K S _ aA z t) (λC=>?_)))))))));refine xC 1 rfl ?_;refine qZ (λT=>.v λx=>.st [(6,oK j),(7,oK p)] [rl 1 xF 2 x T,bx p [xA c,x] 85,bx j [xA 0,kW] 85]) ?_ (λ_ x=>?_)
 ·
  refine zK (jh (λH=>H.nl 1 xF 2) ?_);refine jc (λL M=>.v λy=>.st [(14,xA (L:Int)),(0,xA f),(1,xA c),(2,.func (.func d) #[] h.toArray),(6,oK j),(7,oK p),(13,xA K)] [rl 1 xF 2 y M,bx p [xA c,y] 85,bx j [xA 0,kW] 85]) ⟨_,ls⟩ (λ_ M _ e y=>?_) (λ_ L _ e _=>?_)
  ·have U:=vD e;refine xI (xW 1 rfl (kJ U (xN ?_)));exact jf ⟨_,ls⟩
  refine xI (xW 1 rfl (kO (qP e) (xY (qE (xC 2 rfl (jB λX Y=>(jB λZ c3=>(jB λz4 c4=>?_))))))));refine js [1,0,2] rfl (cZ λ_ _ _ _ g1 _ E _=>(jD (kB 0 rfl e2 (iG 1 rfl g1.bk e2 (zF [2,3,4,5] rfl (jE 6 rfl (jk (λH=>lC X Y _ aA z t (dT e C)) λ_=>qK (jE 7 rfl ?_))))))));refine jkV O e2 (λH=>P _ Z c3 _ (E.1 H (Ns.all ⟨n0,⟨n0,⟨n0,trivial⟩⟩⟩)).bl _ (H.l 0 rfl)) λQ=>qK (jE 8 rfl (lQ (λH=>Eo.int Q) λ_=>qK (jF9 9 rfl (js [2,0,1,3] rfl (jPL c4 λv3=>kD (jF9 10 rfl (xZ e2 ?_)))))));refine kD (jF9 11 rfl (aI E (jW (hv:=(λH=>(H.l 1 rfl).one)) e3 (kD (iT (aH (xU (vY e C) (xC 1 rfl (js [1,0,3] rfl ?_)))))))));exact jg ⟨_,ls⟩
 refine oO (aG 1 e3 (js [2,0,1] rfl ?_));refine zX (hv:=(λH=>oc rfl (oc (H.l 1 rfl).one on))) e3 (pM ?_);exact j1m (λH=>H.s [1] rfl rfl) (dA 0 e2) ⟨_,t,lv⟩
def bQ (N:Nat) (d e f:Int):Option Op:= xG (tM N d e (λh=>nX h f)) λc=>some ((Op.mk c.arity c.table))
theorem xAf {c d e} (r) (x:bQ N c d e=some r) (i) (hN:HN B i) (j:xL c) (p:xL d) (t:xL e):CG B i 85 #[xA c,xA d,xA e] (.v λf=>.fa (xL r.arity) <| .st (.agg #[xA r.arity,f]) λD=>rl 1 xF 2 f r.table::D):=by
 unfold bQ at x
 revert r
 refine vM func85 [(0,xA c),(1,xA d),(2,xA e)] hN λr=>?_;refine xI (jX e2 λ_=>aK rfl λ_=>qW (jA 2 rfl (dJ e2 (jB λy z=>(jk (λH=>xHt y z _ aA j p call130 (λF r h W A G f0=>xFr r h W aA f0 ((c1I (H.g 1 rfl).bk t).w A))) λE C=>js [1,0,2] rfl ?_)))));refine zX (hv:=(λH=>oc rfl (oc (H.l 1 rfl).one on))) e3 (pM ?_);exact j1m (λH=>H.s [1] rfl rfl) (dA 0 e2) ⟨_,C,lv⟩
def dY (c:Int) (d:List Int):Option Int:= oZ (σ:=Int) (oM (λp e f=>xG (ck (f*c)) λh=>xG (ck (h+e)) λi=>some (.go i)) d 0 0) λj=>some j
theorem pZ {c f} (r) (z:dY c f=some r) {d} (h) (hN:HN B h) (K:xL c) (j:Bo B h (Sl 1 xF) d f):CG B h 189 #[xA c,d] (.fa (xL r) <| .st (xA r) λD=>D):=by
 unfold dY at z
 revert r
 refine vM func189 [(0,xA c),(1,d)] hN λr=>?_;refine xI (xM 1 rfl (xK 1 rfl (jo rfl (jL j λp=>xC 1 rfl (qZ (λt=>.fa (xL t) <| .st [(5,xA t)] []) ?_ (λ_ A=>?_))))))
 ·
  refine zK ?_;refine jl (λx i=>.fa (xL i) <| .st [(10,xA (x:Int)),(0,xA c),(5,xA i),(8,d),(9,xA (f.length:Int))] []) ⟨xO,ls⟩ (λ_ i _ C E=>?_) (λx _ _ e F _=>?_)
  ·have G:=oU C;refine xI (xW 1 rfl (kJ G (xN ?_)));exact jf ⟨E,ls⟩
  refine xI (xW 1 rfl (kO (xX e) (xY ?_)));have j1:=dS (Ah e) p;refine qE (jI j F λ_ H=>aP H λ_=>jo rfl (lT (jA 2 rfl (jB λL I=>(wT I (jo rfl (jB λM y=>(bN y ?_))))))));refine kZ 1 rfl (xU (qG e p) (xC 1 rfl ?_));exact jg ⟨(kA y),ls⟩
 refine oO (xS 2 rfl ?_);exact qT (rt rfl) ⟨A,lv⟩
def tP (h:Int) (i:Op) (d:List (List Int)):Option (List Int):= xG (ix d 0) λj=>xG (pN (0:Int) (j.length:Int)) λe=>oZ (σ:=List Int) (oM (λc (D:Int) f=>oZ (σ:=Int) (oM (λE (p:(List Int)) t=>xG (ck (t*h)) λx=>xG (ix p (c:Int)) λy=>xG (ck (x+y)) λz=>some (.go z)) d 0 0) λA=>xG (ix i.table A) λB=>xG (ix f (c:Int)) λF=>some (.go (f.set ((c:Int)).toNat B))) e 0 e) λC=>some C
theorem xQp {d i y} (r) (T:tP d i y=some r) {z e} (p) (hN:HN B p) (af:xL d) (U:Bo B p (qS 2 vU) z i) (A:Bo B p (Sl 1 (kP 1 xF)) e y):CG B p 244 #[xA d,z,e] (.v λI=>.st (I) λD=>rl 1 xF 2 I r::D):=by
 unfold tP at T
 revert r
 refine vM func244 [(0,xA d),(1,z),(2,e)] hN λr=>?_;refine xI ?_;obtain⟨C,rfl,i1,W⟩:=vU.o U;refine jX e2 λf=>xM 1 rfl (jo rfl (jB λz1 Q=>(jI A Q λ_ X=>aR X λ_ Y=>jL Y λ_=>jB λE Z=>?_)));refine jRM (R:=xF) (λw=>⟨rfl,by decide,rfl⟩) Z λv4=>xK 1 rfl (jo rfl (jLc (λH=>H.l 0 rfl) λK=>xC 1 rfl (qZ (λs1=>.v λF=>.st [(7,F)] [rl 1 xF 2 F s1]) ?_ (λ_ F=>?_))))
 ·
  refine zK ?_;refine jl (λh j=>.v λc=>.st [(19,xA (h:Int)),(0,xA d),(2,e),(4,oK f),(7,c),(18,xA (E.length:Int))] [rl 1 xF 2 c j,bx f [xA i.arity,C] 85]) ⟨_,ls⟩ (λ_ j _ q1 c=>?_) (λh _ j t _ c=>?_)
  ·have l1:=oU q1;refine xI (xW 1 rfl (kJ l1 (xN (js [0] rfl ?_))));exact jf ⟨_,ls⟩
  refine xI (xW 1 rfl (kO (xX t) (xY ?_)));have j2:=dS (Ah t) K;refine qE (xM 2 rfl (xK 1 rfl (jo rfl (jL A λL=>xC 1 rfl ?_))));refine qZ (λM=>.fa (xL M) <| .st [(0,xA d),(2,e),(4,oK f),(7,c),(8,xA (h:Int)),(9,xA M),(18,xA (E.length:Int)),(19,xA (h:Int))] [rl 1 xF 2 c j,bx f [xA i.arity,C] 85]) ?_ (λ_ _=>?_)
  ·
   refine zK ?_;refine jl (λN G=>.fa (xL G) <| .st [(24,xA (N:Int)),(0,xA d),(2,e),(4,oK f),(7,c),(8,xA (h:Int)),(9,xA G),(18,xA (E.length:Int)),(19,xA (h:Int)),(22,e),(23,xA (y.length:Int))] [rl 1 xF 2 c j,bx f [xA i.arity,C] 85]) ⟨xO,ls⟩ (λ_ G _ q2 i4=>?_) (λN _ _ x y1 _=>?_)
   ·have l2:=oU q2;refine xI (xW 1 rfl (kJ l2 (xN ?_)));exact jf ⟨i4,ls⟩
   refine xI (xW 1 rfl (kO (xX x) (xY ?_)));have j3:=dS (Ah x) L;refine qE (jI A y1 λ_ h4=>aR h4 λ_ h5=>jo rfl (lT (jA 2 rfl (jB λz3 c2=>(wT c2 (jA 2 rfl (jB λz4 c3=>(jI h5 c3 (λ_ h6=>?_)))))))));refine aP h6 λ_=>jB λz5 O=>(bN O (kZ 1 rfl (xU (qG x L) (xC 1 rfl ?_))));exact jg ⟨(kA O),ls⟩
  refine xMt (jA 2 rfl (xZ e2 (jb 1 e3 (jo rfl (jB λz6 c5=>(jI W c5 λ_ h7=>aP h7 λi5=>jB λz7 P=>(jRl 0 P λ_ S=>jh (λH=>H.lw) ?_)))))));refine jS S (dL P) (λH=>Eo.int i5) rfl (jh (λH=>H.tl) (dQ (xU (qG t K) (xC 1 rfl ?_))));exact jg ⟨_,ls⟩
 refine oO (xS 2 rfl ?_);exact j1 (rt rfl) ⟨_,lv⟩
def lV (N:Nat) (d:Int) (e:Op) (c:Rel):Option ((List (List Int))×(List Int)):= xG (vA d c.arity) λh=>if ((c.tuples.length:Int)==h) then some ([],[]) else xG (pN (false:Bool) h) λy=>oZ (σ:=List Bool) (oM (λK (z:(List Int)) i=>xG (dY d z) λj=>xG (ix i j) λL=>some (.go (i.set (j).toNat true))) c.tuples 0 y) λA=>xG (vA (c.tuples.length:Int) e.arity) λB=>oZ (σ:=Unit) (qM (λC s=>match s with | _=>xG (qQ N (c.tuples.length:Int) e.arity (C:Int)) λD=>oZ (σ:=List (List Int)) (oM (λM (E:Int) F=>xG (ix c.tuples E) λG=>xG (ap F ([G])) λH=>some (.go H)) D 0 []) λp=>xG (tP d (Op.mk e.arity e.table) p) λf=>xG (dY d f) λt=>xG (ix A t) λx=>if (!x) then xG (nev f) λI=>some (.ret (p,f)) else some (.go ())) B.toNat 0 ()) λ_=>some ([],[])
theorem xLz {i p d} (r) (hR:lV N i p d=some r) {Q S} (E) (hN:HN B E) (x:xL i) (A1:Bo B E (qS 2 vU) Q p) (A2:Bo B E (qS 2 oQ) S d):CG B E 207 #[xA i,Q,S] (.v λY=>.v λL=>.fa ((r.2=[]->L= .slice none 0 0)) <| .st (.tuple #[Y,L]) λD=>rw B 1 (kP 1 xF) 58 Y r.1::rl 1 xF 2 L r.2::D):=by
 unfold lV at hR
 revert r
 refine vM func207 [(0,xA i),(1,Q),(2,S)] hN λr=>?_;refine xI ?_;obtain⟨z,rfl,T,h1⟩:=vU.o A1;refine jX e2 (λe=>?_);obtain⟨t,rfl,i2,F⟩:=oQ.o A2;refine jX e2 λf=>xM 2 rfl (xZ e2 (jb 0 e3 (jL F λi3=>xK 1 rfl (jA 2 rfl (xZ e2 (jb 0 e3 ?_))))));refine jB λz1 c1=>(jk (λH=>zU z1 c1 _ aA x i2) λad=>xC 1 rfl (xT ?_ ?_))
 ·refine xI (oE 2 rfl (jh (λH=>H.nl 1 (kP 1 xF) 58) (jh (λH=>H.nl 1 xF 2) (js [1,0,2,3] rfl (jh (λH=>H.lw) (jh (λH=>H.wk) (js [0,1] rfl ?_)))))));exact j2 (rt rfl) (rt rfl) ⟨_,_,(λ_=>rfl),lv⟩
 refine qR (jo rfl (xZ e2 (jb 0 e3 (jk (λH=>zU z1 c1 _ aA x i2) λad=>jB λz2 c2=>?_))));refine jRM (R:=aC) (λw=>⟨rfl,rfl⟩) c2 λv4=>xK 1 rfl (xZ e2 (jb 1 e3 (jL F λi4=>xC 1 rfl ?_)));refine qZ (λA=>.v λj=>.st [(0,xA i),(4,oK e),(5,oK f),(8,xA (d.tuples.length:Int)),(9,j)] [rl 1 aC 4 j A,bx f [xA d.arity,t] 80,bx e [xA p.arity,z] 85]) ?_ (λA j=>?_)
 ·
  refine zK ?_;refine jl (λk1 U=>.v λG=>.st [(34,xA (k1:Int)),(0,xA i),(4,oK e),(5,oK f),(8,xA (d.tuples.length:Int)),(9,G),(32,t),(33,xA (d.tuples.length:Int))] [rl 1 aC 4 G U,bx f [xA d.arity,t] 80,bx e [xA p.arity,z] 85]) ⟨_,ls⟩ (λ_ U _ q1 G=>?_) (λk1 _ U M y1 G=>?_)
  ·have l1:=oU q1;refine xI (xW 1 rfl (kJ l1 (xN ?_)));exact jf ⟨_,ls⟩
  refine xI (xW 1 rfl (kO (xX M) (xY ?_)));have j1:=dS (Ah M) i4;refine qE (jI F y1 λ_ h3=>aR h3 λ_ h4=>jo rfl (lT (jA 3 rfl (jB λz3 c3=>(jk (λH=>pZ z3 c3 _ aA x (H.a h4)) λbf=>jB λz4 c4=>(jRl 0 c4 λ_ ae=>jh (λH=>H.lw) ?_))))));refine jS ae (dL c4) (λH=>Eo.bool) rfl (jh (λH=>H.tl) (dQ (xU (qG M i4) (xC 1 rfl ?_))));exact jg ⟨_,ls⟩
 refine cF (jo rfl (xZ e2 (jb 2 e3 (jB λI c5=>(jk (λH=>zU I c5 _ aA i3 T) λZ=>xC 1 rfl (qZ (λ_=>.st [] []) ?_ (λ_=>?_)))))))
 ·
  refine zK ?_;refine jc (λK _=>.st [(48,xA (K:Int)),(0,xA i),(4,oK e),(5,oK f),(8,xA (d.tuples.length:Int)),(9,j),(47,xA I)] [rl 1 aC 4 j A,bx f [xA d.arity,t] 80,bx e [xA p.arity,z] 85]) ls (λ_ _ _ y=>?_) (λ_ K _ y=>?_)
  ·have l2:=vD y;refine xI (xW 1 rfl (kJ l2 (xN (js [] rfl ?_))));exact jf ls
  refine xI (xW 1 rfl (kO (qP y) (xY (qE (xM 2 rfl (jR0 (kP 1 xF) λv7=>xK 1 rfl ?_))))));refine jo rfl (xZ e2 (jb 3 e3 (jo rfl (jB λW c6=>(jk (λH=>lC W c6 _ aA i3 T (dT y Z)) λv8=>jLc (λH=>H.l 0 rfl) λi5=>xC 1 rfl ?_)))));refine qZ (λs3=>.v λX=>.st [(0,xA i),(4,oK e),(5,oK f),(8,xA (d.tuples.length:Int)),(9,j),(13,X),(47,xA I),(48,xA (K:Int))] [rw B 1 (kP 1 xF) 58 X s3,rl 1 aC 4 j A,bx f [xA d.arity,t] 80,bx e [xA p.arity,z] 85]) ?_ (λ_ X=>?_)
  ·
   refine zK (js [1,0,2,3,4] rfl (jh (λH=>H.lw) (jh (λH=>H.wk) (js [1,0,2,3,4] rfl ?_))));refine jl (λk3 s4=>.v λO=>.st [(58,xA (k3:Int)),(0,xA i),(4,oK e),(5,oK f),(8,xA (d.tuples.length:Int)),(9,j),(13,O),(47,xA I),(48,xA (K:Int)),(56,v8),(57,xA (W.length:Int))] [rl 1 xF 2 v8 W,rw B 1 (kP 1 xF) 58 O s4,rl 1 aC 4 j A,bx f [xA d.arity,t] 80,bx e [xA p.arity,z] 85]) ⟨_,ls⟩ (λ_ s4 _ q2 O=>?_) (λk3 _ _ P y2 _=>?_)
   ·have l3:=oU q2;refine xI (xW 1 rfl (kJ l3 (xN (js [1,2,3,4] rfl ?_))));exact jf ⟨_,ls⟩
   refine xI (xW 1 rfl (kO (xX P) (xY ?_)));have j3:=dS (Ah P) i5;refine qE (cZ λ_ _ _ a0 g1 _ C _=>(jI g1.ld y2 λ_ h5=>aP h5 λ_=>jo rfl (lT (jo rfl (xZ e2 (jb 2 e3 (jo rfl (jB λz7 c7=>?_))))))));refine jI F c7 λ_ h6=>aR (s:=λH=>(a0.trans (Sm.mono H.sm C.2.2))) h6 λ_ h7=>jR1 (N1:=B) (λc h=>(C.2.2 c h)) (λH=>Eo.sl (Bo.to h7 (a0.trans (Sm.mono H.sm C.2.2)))) λ_=>jB λz8 c8=>(js [1,0,2,3,4] rfl (jP c8 λbg=>kZ 1 rfl (xU (qG P i5) (xC 1 rfl ?_))));refine aI C ?_;exact jg ⟨_,ls⟩
  refine oO (jo rfl (aG 3 e3 (jo rfl (jB λz9 c9=>?_))));refine jk (λH=>xQp z9 c9 _ aA x (vU.m T (H.a h1)) (H.r 0 rfl)) λbh=>xM 1 rfl (jA 3 rfl (jB λaf ag=>(jk (λH=>pZ af ag _ aA x (H.l 0 rfl)) λbi=>jB λbj ah=>(js [2,0,1,3,4] rfl (cZ λ_ _ _ _ g2 _ a1 _=>(jI g2.ld ah λ_ h8=>jlB h8 ?_))))));refine xC 1 rfl (xT ?_ ?_)
  ·refine xI (xS 4 rfl (jB λbm ai=>(xFi (fZ (zR (fH (lD (aI a1 (js [2,1] rfl ?_)))))))));exact j2 (rt rfl) (rt rfl) ⟨_,_,(oJe ai),lv⟩
  refine qJ (xU (vY y Z) (xC 1 rfl (js [2,3] rfl (aI a1 ?_))));exact jg ls
 refine oO (xS 2 rfl (jh (λH=>H.nl 1 (kP 1 xF) 58) (jh (λH=>H.nl 1 xF 2) (js [1,0] rfl (jh (λH=>H.lw) (jh (λH=>H.wk) ?_))))));exact j2 (rt rfl) (rt rfl) ⟨_,_,(λ_=>rfl),lv⟩
def dP (N:Nat) (e:Int) (c:Op) (d:Rel):Option Bool:= xG (lV N e (Op.mk c.arity c.table) (Rel.mk d.arity d.tuples)) λf=>some f.2.isEmpty
theorem xEv {c h i} (r) (t:dP N c h i=some r) {e f} (d) (hN:HN B d) (p:xL c) (x:Bo B d (qS 2 vU) e h) (y:Bo B d (qS 2 oQ) f i):CG B d 139 #[xA c,e,f] (.st (.bool r) λD=>D):=by
 unfold dP at t
 revert r
 refine vM func139 [(0,xA c),(1,e),(2,f)] hN λr=>?_;refine xI ?_;obtain⟨K,rfl,z,A⟩:=vU.o x;refine jX e2 (λ_=>?_);obtain⟨I,rfl,C,E⟩:=oQ.o y;refine jX e2 λ_=>xM 1 rfl (jo rfl (aG 1 e3 (aG 0 e3 (jB λF G=>?_))));refine jk (λH=>xLz F G _ H.hN p (vU.m z (H.u A)) (oQ.m C (H.u E))) λ_ _ j=>xM 5 rfl (jo rfl (jEz (λH=>H.l 1 rfl) j (xS 1 rfl ?_)));exact qT (rt rfl) lv
def eW (N:Nat) (c:Rel) (d:A6) (e:Op):Option Bool:= xG (dP N d.size e (Rel.mk c.arity c.tuples)) λf=>some ((!f))
theorem xBh {h i j} (r) (t:eW N h i j=some r) {d e f} (c) (hN:HN B c) (x:Bo B c (qS 2 oQ) d h) (y:Bo B c (Pt 2 xB) e i) (z:Bo B c (Pt 2 vU) f j):CG B c 187 #[d,e,f] (.st (.bool r) λD=>D):=by
 unfold eW at t
 revert r
 refine vM func187 [(0,d),(1,e),(2,f)] hN λr=>?_;refine xI ?_;obtain⟨K,rfl,A,C⟩:=oQ.o x;refine jX e2 λ_=>xM 1 rfl (aF y xB.f0 λ_ p=>aP p λE=>jlA z λ_ F=>aG 0 e3 (jB λG I=>?_));refine jk (λH=>xEv G I _ aA E (H.a F) (oQ.m A (H.a C))) (xS 2 rfl ?_);exact qT (rt rfl) lv
def mT (N:Nat) (c:A6) (d:Op):Option Int:= xG (kN c.rels (λe=>eW N e (A6.mk c.size c.rels) (Op.mk d.arity d.table))) λf=>some f
theorem xEe {f i} (r) (x:mT N f i=some r) {d e} (c) (hN:HN B c) (y:Bo B c (qS 2 xB) d f) (z:Bo B c (qS 2 vU) e i):CG B c 131 #[d,e] (.fa (xL r) <| .st (xA r) λD=>D):=by
 unfold mT at x
 revert r
 refine vM func131 [(0,d),(1,e)] hN λr=>?_;refine xI ?_;obtain⟨K,rfl,A,j⟩:=xB.o y;refine jX e2 (λ_=>?_);obtain⟨I,rfl,C,E⟩:=vU.o z;refine jX e2 λ_=>xM 1 rfl (xZ e2 (jb 1 e3 (dJ e2 (jB λF G=>(jk (λH=>iU F G _ aA (H.a j) call187 (λL r h W p M f0=>xBh r h W aA f0 ((xB.b (H.g 1 rfl).bk A (H.a j)).w p) ((vU.b (H.g 0 rfl).bk C (H.a E)).w p))) λt=>xS 1 rfl ?_)))));exact qT (rt rfl) ⟨t,lv⟩
def cA (N:Nat) (c:A6) (d:Op):Option Bool:= xG (mT N (A6.mk c.size c.rels) (Op.mk d.arity d.table)) λe=>some ((decide (e<0)))
theorem wO {f h} (r) (i:cA N f h=some r) {d e} (c) (hN:HN B c) (j:Bo B c (qS 2 xB) d f) (p:Bo B c (qS 2 vU) e h):CG B c 86 #[d,e] (.st (.bool r) λD=>D):=by
 unfold cA at i
 revert r
 refine vM func86 [(0,d),(1,e)] hN λr=>?_;refine xI ?_;obtain⟨G,rfl,t,x⟩:=xB.o j;refine jX e2 (λ_=>?_);obtain⟨E,rfl,y,z⟩:=vU.o p;refine jX e2 λ_=>xM 1 rfl (aG 1 e3 (aG 0 e3 (jB λA C=>?_)));refine jk (λH=>xEe A C _ aA (xB.m t (H.a x)) (vU.m y (H.a z))) λF=>xS 2 rfl ?_;exact qT (rt rfl) lv
def gY (c:Int):Option Bool:= xG (aU c 1 3) λd=>some d
theorem yF {c} (r) (f:gY c=some r) (d) (hN:HN B d) (e:xL c):CG B d 188 #[xA c] (.st (.bool r) λD=>D):=by
 unfold gY at f
 revert r
 refine vM func188 [(0,xA c)] hN λr=>?_;refine xI (xM 1 rfl (jo rfl (jB λh i=>(jk (λH=>bP h i _ aA e zL lL) (xS 1 rfl ?_)))));exact qT (rt rfl) lv
def gX (c:A6) (d:Int):Option Int:= xG (zD (A6.mk c.size c.rels)) λe=>if (!e) then some 1 else xG (gY d) λf=>if (!f) then some 2 else some 0
theorem xDv {f c} (r) (j:gX f c=some r) {d} (e) (hN:HN B e) (p:Bo B e (qS 2 xB) d f) (h:xL c):CG B e 132 #[d,xA c] (.fa (xL r) <| .st (xA r) λD=>D):=by
 unfold gX at j
 revert r
 refine vM func132 [(0,d),(1,xA c)] hN λr=>?_;refine xI ?_;obtain⟨C,rfl,t,x⟩:=xB.o p;refine jX e2 λ_=>jo rfl (xRl (aG 0 e3 (jB λy i=>?_)));refine jk (λH=>fY y i _ aA (xB.m t (H.a x))) (xC 2 rfl (xT ?_ ?_))
 ·refine xI (bA 1 rfl ?_);exact qT (rt rfl) ⟨zL,lv⟩
 refine xI (jo rfl (jB λz A=>(jk (λH=>yF z A _ aA h) (xC 2 rfl (xT ?_ ?_)))))
 ·refine xI (bA 1 rfl ?_);exact qT (rt rfl) ⟨rH,lv⟩
 refine wB (xS 1 rfl ?_);exact qT (rt rfl) ⟨xO,lv⟩
def xCg (c:Int):Option Bool:= xG (aU c 1 10) λd=>some d
theorem xRp {c} (r) (f:xCg c=some r) (d) (hN:HN B d) (e:xL c):CG B d 133 #[xA c] (.st (.bool r) λD=>D):=by
 unfold xCg at f
 revert r
 refine vM func133 [(0,xA c)] hN λr=>?_;refine xI (xM 1 rfl (jo rfl (jB λh i=>(jk (λH=>bP h i _ aA e zL xPn) (xS 1 rfl ?_)))));exact qT (rt rfl) lv
def mJ (d:A6) (e:Int):Option Int:= oZ (σ:=Int) (oM (λp (f:Rel) h=>xG (vA (f.tuples.length:Int) e) λc=>xG (ck (h+(if c<4001 then c else 4001))) λi=>some (.go i)) d.rels 0 0) λj=>some j
theorem xGl {e c} (r) (C:mJ e c=some r) {f} (h) (hN:HN B h) (E:Bo B h (qS 2 xB) f e) (A:xL c):CG B h 134 #[f,xA c] (.fa (xL r) <| .st (xA r) λD=>D):=by
 unfold mJ at C
 revert r
 refine vM func134 [(0,f),(1,xA c)] hN λr=>?_;refine xI ?_;obtain⟨F,rfl,T,j⟩:=xB.o E;refine jX e2 λ_=>xM 1 rfl (xK 1 rfl (xZ e2 (jb 0 e3 (jL j λp=>xC 1 rfl (qZ (λt=>.fa (xL t) <| .st [(5,xA t)] []) ?_ (λ_ G=>?_))))))
 ·
  refine zK (js [] rfl ?_);refine jl (λx i=>.fa (xL i) <| .st [(11,xA (x:Int)),(1,xA c),(5,xA i),(9,F),(10,xA (e.rels.length:Int))] []) ⟨xO,ls⟩ (λ_ i _ I K=>?_) (λx U _ d L _=>?_)
  ·have M:=oU I;refine xI (xW 1 rfl (kJ M (xN ?_)));exact jf ⟨K,ls⟩
  refine xI (xW 1 rfl (kO (xX d) (xY ?_)));have j1:=dS (Ah d) p;refine qE (jI j L λ_ N=>jlA N λ_ O=>aK rfl (λ_=>?_));obtain⟨W,rfl,X,y⟩:=oQ.o O;refine zX (hv:=(λH=>oc rfl (oc (H.a y).one on))) e3 (lT (jo rfl (xZ e2 (jb 0 e3 (jL y λP=>jo rfl (jB λQ R=>(jk (λH=>zU Q R _ aA P A) λS=>oFq e2 (jB λY z=>?_))))))));refine bN z (kZ 1 rfl (xU (qG d p) (xC 1 rfl (js [] rfl ?_))));exact jg ⟨(kA z),ls⟩
 refine oO (xS 2 rfl ?_);exact qT (rt rfl) ⟨G,lv⟩
def zG (c:List Int):Option Int:= oZ (σ:=Unit) (if (decide ((c.length:Int)<1)) then none else some (.nx ())) λ_=>xG (ix c 0) λf=>oZ (σ:=Int) (qM (λh d=>xG (ix c (1+(h:Int))) λe=>some (.go (if d<e then e else d))) ((c.length:Int) - 1).toNat 0 f) λi=>some i
theorem tQ {j} (r) (y:zG j=some r) {d} (h) (hN:HN B h) (e:Bo B h (Sl 1 xF) d j):CG B h 190 #[d] (.fa (xL r) <| .st (xA r) λD=>D):=by
 unfold zG at y
 revert r
 refine vM func190 [(0,d)] hN λr=>?_;refine xI (xK 1 rfl (jo rfl (jL e λ_=>xC 1 rfl (qZ (λ_=>.st [(0,d)] []) ?_ (λ_=>?_)))))
 ·
  refine xT ?_ ?_
  ·exact jno
  refine xTx ?_;exact jf ls
 refine oO (jo rfl (jB λL z=>(jI e z λ_ A=>aP A λC=>xK 1 rfl (xC 1 rfl (qZ (λp=>.fa (xL p) <| .st [(3,xA p)] []) ?_ (λ_ E=>?_))))))
 ·
  refine zK ?_;refine jc (λt f=>.fa (xL f) <| .st [(4,xA (1+(t:Int))),(0,d),(3,xA f)] []) ⟨C,ls⟩ (λ_ f _ c i=>?_) (λ_ t f c i=>?_)
  ·have F:=yG c;refine xR (jA 2 rfl (jL e λ_=>xC 1 rfl (kJ F (xN ?_))));exact jf ⟨i,ls⟩
  refine xR (jA 2 rfl (jL e λx=>xC 1 rfl (kO (tN c) (xY ?_))));have j1:=xVp c zL x;have G:=xHc c zL x;refine xAp (jA 3 rfl (jB λM H=>(jI e H λ_ I=>aP I λK=>oFg e2 (kZ 1 rfl (jo rfl (xDk G (jo rfl ?_)))))));refine kD ?_;exact jg ⟨(oKz i K),ls⟩
 refine oO (xS 2 rfl ?_);exact qT (rt rfl) ⟨E,lv⟩
def mA (N:Nat) (c:A6) (e:Int):Option (Int×(List Rel)×Int×(List (List lookT))×(List (List Bool))×(List Int)×Int×(List Int)):= xG (vA c.size e) λh=>xG (pN ([]:(List lookT)) h) λI=>xG (qH ([(-1)]) h) λK=>oZ (σ:=(List (List lookT))×(List (List Bool))) (oM (λL (d:Rel) s=>match s with | (M,O)=>xG (vA c.size d.arity) λP=>xG (pN (false:Bool) P) λQ=>oZ (σ:=List Bool) (oM (λk2 (R:(List Int)) i=>xG (dY c.size R) λj=>xG (ix i j) λz7=>some (.go (i.set (j).toNat true))) d.tuples 0 Q) λS=>xG (ap O ([S])) λT=>xG (vA (d.tuples.length:Int) e) λU=>oZ (σ:=List (List lookT)) (qM (λW p=>xG (qQ N (d.tuples.length:Int) e (W:Int)) λx=>oZ (σ:=List Int) (qM (λX Y=>oZ (σ:=Int) (oM (λk5 Z s7=>xG (ck (s7*c.size)) λy=>xG (ix d.tuples Z) λz=>xG (ix z (X:Int)) λA=>xG (ck (y+A)) λB=>some (.go B)) x 0 0) λs8=>xG (ap Y ([s8])) λC=>some (.go C)) d.arity.toNat 0 []) λt=>xG (zG t) λf=>xG (ix p f) λD=>xG (ap D ([(lookT.mk (L:Int) t)])) λE=>some (.go (p.set (f).toNat E))) U.toNat 0 M) λF=>some (.go (F,T))) c.rels 0 (I,[])) λ(G,H)=>some ((c.size,c.rels,e,G,H,K,0,[]))
theorem xGb {d c} (r) (hR:mA N d c=some r) {v0} (w0) (hN:HN B w0) (A0:Bo B w0 (qS 2 xB) v0 d) (I:xL c):CG B w0 135 #[v0,xA c] (.n λb3=>.v λb4=>.v λb5=>.v λb6=>.v λb7=>.fa (xL r.1) <| .fa (Bo B w0 (Sl 2 oQ) b4 r.2.1) <| .fa (xL r.2.2.1) <| .fa (xL r.2.2.2.2.2.2.1) <| .st (oK b3) λD=>bx b3 [xA r.1,b4,xA r.2.2.1,b5,b6,b7,xA r.2.2.2.2.2.2.1,kW] 240::rl 1 (kP 2 kE) 244 b5 r.2.2.2.1::rl 1 (kP 1 aC) 241 b6 r.2.2.2.2.1::rl 1 xF 2 b7 r.2.2.2.2.2.1::D):=by
 unfold mA at hR
 revert r
 refine vM func135 [(0,v0),(1,xA c)] hN λr=>?_;refine xI ?_;obtain⟨e,rfl,K,h1⟩:=xB.o A0;refine jX e2 λx=>xW 1 rfl (jB λp W=>(jB λz2 c1=>(jB λA c2=>(cZ λw1 X1 N1 sm1 g1 e32 b8 _=>?_))));have T:=g1.bk;refine jD ?_;refine jdp (f:=3) (ls:=#[true,true,true,true,true,true,true,true,true,true,true,true,true,false,false,false]) (.v λv2=>.v λh=>.st [(1,xA c),(2,oK x),(20,(.agg #[xA d.size,e])),(21,xA c),(26,v2),(32,h)] [rl 1 (bO 2 kE 243) 244 v2 z2,rl 1 xF 2 h A]) (λv2 h=>?_) (λH1=>?_)
 ·
  refine jE 13 rfl ?_;refine oEy [(0,[xA d.size,e]),(2,[xA c]),(3,[v2]),(5,[h])] e5 (λH=>⟨rfl,rfl,Ax rfl,⟨rfl,rfl,Ax rfl,⟨(xHj (H.l 0 rfl).one),rfl,Ax rfl,⟨(xHj (H.l 1 rfl).one),rfl,Ax rfl,trivial⟩⟩⟩⟩) (qK (jE 14 rfl (jX e2 λj=>qK (zF [15] rfl (iT (cF (xZ e2 (jbK T e2 (jL h1 (λi2=>?_))))))))));refine xC 1 rfl ?_;refine qZ (λ(s1,s2)=>.v λv4=>.v λv5=>.st [(5,oK j)] [rl 1 (kP 1 aC) 241 v5 s2,bx j [xA d.size,e,xA c,v4,v5,h,xA 0,kW] 240,rl 1 (bO 2 kE 243) 244 v4 s1,rl 1 xF 2 h A]) ?_ (λ(s1,s2) v4 v5=>?_)
  ·
   refine zK (jh (λH=>H.nl 1 (kP 1 aC) 241) ?_);refine jl (λi (s3,s4)=>.v λM=>.v λO=>.st [(38,xA (i:Int)),(1,xA c),(2,oK x),(5,oK j),(36,e),(37,xA (d.rels.length:Int))] [rl 1 (kP 1 aC) 241 O s4,bx j [xA d.size,e,xA c,M,O,h,xA 0,kW] 240,rl 1 (bO 2 kE 243) 244 M s3,rl 1 xF 2 h A]) ⟨_,_,ls⟩ (λ_ (s3,s4) _ q1 M O=>?_) (λi t (s3,s4) ad y1 M O=>?_)
   ·have l1:=oU q1;refine xI (xW 1 rfl (kJ l1 (xN ?_)));exact jf ⟨_,_,ls⟩
   refine xI (xW 1 rfl (kO (xX ad) (xY ?_)));have j2:=dS (Ah ad) i2;refine qE (jo rfl (jI h1 y1 λ_ h2=>jlA (s:=λH=>(sm1.trans (Sm.mono H.sm b8.2.2))) h2 λ_ h3=>aK rfl λy=>jo rfl ?_));obtain⟨P,rfl,i3,h4⟩:=oQ.o (e32 h3);refine zX (hv:=(λH=>oc rfl (oc (H.a h4).one on))) e3 (qW (xZ e2 (jbK T e2 (xZ e2 (jb 0 e3 (jB λz4 c3=>(jk (λH=>zU z4 c3 _ aA K i3) λds=>jB λz5 c4=>?_)))))));refine jRM (R:=aC) (λw=>⟨rfl,rfl⟩) c4 λv9=>xK 1 rfl (xZ e2 (jb 1 e3 (jL h4 λi4=>xC 1 rfl ?_)));refine qZ (λs5=>.v λb9=>.st [(1,xA c),(2,oK x),(5,oK j),(6,xA (i:Int)),(7,oK y),(8,b9),(36,e),(37,xA (d.rels.length:Int)),(38,xA (i:Int))] [rl 1 aC 4 b9 s5,bx y [xA t.arity,P] 80,rl 1 (kP 1 aC) 241 O s4,bx j [xA d.size,e,xA c,M,O,h,xA 0,kW] 240,rl 1 (bO 2 kE 243) 244 M s3,rl 1 xF 2 h A]) ?_ (λs5 _=>?_)
   ·
    refine zK ?_;refine jl (λk2 s6=>.v λa9=>.st [(52,xA (k2:Int)),(1,xA c),(2,oK x),(5,oK j),(6,xA (i:Int)),(7,oK y),(8,a9),(36,e),(37,xA (d.rels.length:Int)),(38,xA (i:Int)),(50,P),(51,xA (t.tuples.length:Int))] [rl 1 aC 4 a9 s6,bx y [xA t.arity,P] 80,rl 1 (kP 1 aC) 241 O s4,bx j [xA d.size,e,xA c,M,O,h,xA 0,kW] 240,rl 1 (bO 2 kE 243) 244 M s3,rl 1 xF 2 h A]) ⟨_,ls⟩ (λ_ s6 _ q2 a9=>?_) (λk2 _ s6 ae y2 a9=>?_)
    ·have l2:=oU q2;refine xI (xW 1 rfl (kJ l2 (xN ?_)));exact jf ⟨_,ls⟩
    refine xI (xW 1 rfl (kO (xX ae) (xY ?_)));have j3:=dS (Ah ae) i4;refine qE (jI h4 y2 λ_ h5=>aR h5 λ_ h6=>jo rfl (lT (jo rfl (xZ e2 (jbK T e2 (jo rfl (jB λz6 c5=>(jk (λH=>pZ z6 c5 _ aA K (H.a h6)) (λdu=>?_)))))))));refine jB λz7 c6=>(jRl 0 c6 λ_ ca=>jh (λH=>H.lw) (jS ca (dL c6) (λH=>Eo.bool) rfl (jh (λH=>H.tl) (dQ (xU (qG ae i4) (xC 1 rfl ?_))))));exact jg ⟨_,ls⟩
   refine oO (jA 3 rfl (xZ e2 (jb 3 e3 (jo rfl (jh (λH=>H.os) (uL (λH=>El.sl) λ_=>jB λX c7=>(js [2,0,1,3,4,5] rfl (jPL c7 λC=>jo rfl ?_))))))));refine xZ e2 (js [2,0,1,3,4] rfl (jW (hv:=(λH=>(H.l 1 rfl).one)) e3 (qW (xZ e2 (jb 2 e3 (jL h4 λi5=>xM 1 rfl (jA 2 rfl (jB λY c8=>?_))))))));refine jk (λH=>zU Y c8 _ aA i5 I) λba=>xC 1 rfl ?_;refine qZ (λs7=>.v λaf=>.st [(1,xA c),(2,oK x),(5,oK j),(36,e),(37,xA (d.rels.length:Int)),(38,xA (i:Int))] [bx j [xA d.size,e,xA c,af,C,h,xA 0,kW] 240,rl 1 (kP 1 aC) 241 C X,rl 1 (bO 2 kE 243) 244 af s7,rl 1 xF 2 h A]) ?_ (λs7 af=>?_)
   ·
    refine zK ?_;refine jc (λZ U=>.v λE=>.st [(79,xA (Z:Int)),(1,xA c),(2,oK x),(5,oK j),(6,xA (i:Int)),(7,oK y),(11,xA (t.tuples.length:Int)),(36,e),(37,xA (d.rels.length:Int)),(38,xA (i:Int)),(78,xA Y)] [bx j [xA d.size,e,xA c,E,C,h,xA 0,kW] 240,rl 1 (kP 1 aC) 241 C X,bx y [xA t.arity,P] 80,rl 1 (bO 2 kE 243) 244 E U,rl 1 xF 2 h A]) ⟨_,ls⟩ (λ_ U _ a0 E=>?_) (λ_ Z U a0 E=>?_)
    ·have l3:=vD a0;refine xI (xW 1 rfl (kJ l3 (xN (js [0,1,3,4] rfl ?_))));exact jf ⟨_,ls⟩
    refine xI (xW 1 rfl (kO (qP a0) (xY ?_)));have m1:=vY a0 ba;refine qE (xM 2 rfl (jo rfl (oV e5 (aK rfl λQ=>zX e3 (qW (jA 3 rfl (jB λa1 c9=>(jk (λH=>lC a1 c9 _ aA i5 I (dT a0 ba)) (λS=>?_)))))))));refine xK 1 rfl (xZ e2 (jb 4 e3 (xC 1 rfl ?_)));refine qZ (λs9=>.v λbb=>.st [(1,xA c),(2,oK x),(5,oK j),(6,xA (i:Int)),(7,oK y),(11,xA (t.tuples.length:Int)),(13,oK Q),(36,e),(37,xA (d.rels.length:Int)),(38,xA (i:Int)),(78,xA Y),(79,xA (Z:Int))] [rl 1 xF 2 bb s9,bx Q [xA (i:Int),bb] 243,bx j [xA d.size,e,xA c,E,C,h,xA 0,kW] 240,rl 1 (kP 1 aC) 241 C X,bx y [xA t.arity,P] 80,rl 1 (bO 2 kE 243) 244 E U,rl 1 xF 2 h A]) ?_ (λs9 _=>?_)
    ·
     refine zK (jh (λH=>H.nl 1 xF 2) ?_);refine jc (λk4 a2=>.v λL=>.st [(90,xA (k4:Int)),(1,xA c),(2,oK x),(5,oK j),(6,xA (i:Int)),(7,oK y),(11,xA (t.tuples.length:Int)),(13,oK Q),(14,S),(36,e),(37,xA (d.rels.length:Int)),(38,xA (i:Int)),(78,xA Y),(79,xA (Z:Int)),(89,xA t.arity)] [rl 1 xF 2 L a2,rl 1 xF 2 S a1,bx Q [xA (i:Int),L] 243,bx j [xA d.size,e,xA c,E,C,h,xA 0,kW] 240,rl 1 (kP 1 aC) 241 C X,bx y [xA t.arity,P] 80,rl 1 (bO 2 kE 243) 244 E U,rl 1 xF 2 h A]) ⟨_,ls⟩ (λ_ a2 _ a3 L=>?_) (λ_ k4 a2 a3 L=>?_)
     ·have l4:=vD a3;refine xI (xW 1 rfl (kJ l4 (xN (js [0,2,3,4,5,6,7] rfl ?_))));exact jf ⟨_,ls⟩
     refine xI (xW 1 rfl (kO (qP a3) (xY ?_)));have j4:=dT a3 i3;refine qE (xM 2 rfl (xK 1 rfl (jo rfl (jLc (λH=>H.l 1 rfl) λi6=>xC 1 rfl ?_))));refine qZ (λag=>.fa (xL ag) <| .st [(1,xA c),(2,oK x),(5,oK j),(6,xA (i:Int)),(7,oK y),(11,xA (t.tuples.length:Int)),(13,oK Q),(14,S),(16,xA ag),(36,e),(37,xA (d.rels.length:Int)),(38,xA (i:Int)),(78,xA Y),(79,xA (Z:Int)),(89,xA t.arity),(90,xA (k4:Int))] [rl 1 xF 2 L a2,rl 1 xF 2 S a1,bx Q [xA (i:Int),L] 243,bx j [xA d.size,e,xA c,E,C,h,xA 0,kW] 240,rl 1 (kP 1 aC) 241 C X,bx y [xA t.arity,P] 80,rl 1 (bO 2 kE 243) 244 E U,rl 1 xF 2 h A]) ?_ (λag i7=>?_)
     ·
      refine zK ?_;refine jl (λk5 ah=>.fa (xL ah) <| .st [(95,xA (k5:Int)),(1,xA c),(2,oK x),(5,oK j),(6,xA (i:Int)),(7,oK y),(11,xA (t.tuples.length:Int)),(13,oK Q),(14,S),(15,xA (k4:Int)),(16,xA ah),(36,e),(37,xA (d.rels.length:Int)),(38,xA (i:Int)),(78,xA Y),(79,xA (Z:Int)),(89,xA t.arity),(90,xA (k4:Int)),(93,S),(94,xA (a1.length:Int))] [rl 1 xF 2 L a2,rl 1 xF 2 S a1,bx Q [xA (i:Int),L] 243,bx j [xA d.size,e,xA c,E,C,h,xA 0,kW] 240,rl 1 (kP 1 aC) 241 C X,bx y [xA t.arity,P] 80,rl 1 (bO 2 kE 243) 244 E U,rl 1 xF 2 h A]) ⟨xO,ls⟩ (λ_ ah _ q3 i8=>?_) (λk5 _ _ ai y3 _=>?_)
      ·have l5:=oU q3;refine xI (xW 1 rfl (kJ l5 (xN ?_)));exact jf ⟨i8,ls⟩
      refine xI (xW 1 rfl (kO (xX ai) (xY ?_)));have j5:=dS (Ah ai) i6;refine qE (js [1,0,2,3,4,5,6,7] rfl (cZ λ_ _ _ bc g2 e1 aj _=>(jI g2.ld y3 λ_ h7=>aP h7 λ_=>xC 1 rfl (jQ (zA 1 rfl (sW e2 (jqbK (T.lf e1) e2 ?_)))))));refine jB λdw cb=>(jqv (λF H w l=>yB F rfl rfl cb) (sW e2 (jqb 4 e3 (zA 1 rfl (jB λdx cc=>(lM h4 cc λ_ h8=>eZ (s:=λH w l=>(bc.trans (Sm.mono (H.q w l) aj.2.2))) h8 λ_ h9=>zA 1 rfl (jB λdy cd=>(lM h9 cd (λ_ ce=>?_)))))))));refine kI (s:=λH w l=>(bc.trans (Sm.mono (H.q w l) aj.2.2))) ce λ_=>jB λdz bd=>(jqv (λF H w l=>wH F rfl rfl bd) (zA 1 rfl (nD (aH (xU (qG ai i6) (xC 1 rfl (aI aj (js [1,0,2,3,4,5,6,7] rfl ?_))))))));exact jg ⟨(kA bd),ls⟩
     refine xMt (xZ e2 (jb 2 e3 (jo rfl (lQ (λH=>Eo.int i7) λ_=>jB λe0 cf=>(js [1,0,2,3,4,5,6,7,8] rfl (jPL cf λv19=>xZ e2 (js [2,0,1,3,4,5,6,7] rfl (jW (hv:=(λH=>(H.l 1 rfl).one)) e3 ?_))))))));refine dQ (xU (vY a3 i3) (xC 1 rfl (js [1,2,0,3,4,5,6,7] rfl ?_)));exact jg ⟨_,ls⟩
    refine oO (xZ e2 (jb 1 e3 (jB λcg ch=>(jk (λH=>tQ cg ch _ aA (H.l 0 rfl)) λe4=>xC 1 rfl (jB λe6 G=>(jB λe7 ak=>(js [1,2,0,3,4,5,6] rfl (jh (λH=>H.mg) ?_))))))));refine cZ λ_ _ _ _ g3 _ al _=>?_;have K2:=g3.r.bk;refine jD (zF [0,1] rfl (kB 2 rfl e2 (iG 3 rfl K2 e2 (zF [4,5,6] rfl (kB 7 rfl e2 (iG 8 rfl K2 e2 (zF [9] rfl (rY 12 rfl g3.l.bk e2 (eG (λH=>H) 10 13 rfl rfl ?_ ?_)))))))))
    ·
     refine jRl 3 G λ_ be=>qK (eG (λH=>H) 11 13 rfl rfl ?_ ?_)
     ·refine js [3,0,1,2,4] rfl (xVk be (rN G) λ_=>qK (jE 13 rfl (js [2,0,1,3,4,5] rfl (jh (λH=>kE.w j2 H) (uL (λH=>El.agg) λ_=>qK (jE 14 rfl (js [1,0,2,3,4,5] rfl (jPL ak (λ_=>?_)))))))));refine qK (jE 15 rfl (jRl 1 (ixh G) λ_ ci=>qK (jE 16 rfl (js [1,0,2,3,4] rfl (xXa ci (dL (ixh G)) rfl (qK (iT (aH (xU m1 ?_)))))))));refine xC 1 rfl (aI al (jh (λH=>H.um) (js [1,3,4,2,5] rfl ?_)));exact jg ⟨_,ls⟩
     refine jh (λH=>kE.w j2 H) (uL (λH=>El.agg) λ_=>qK (jE 11 rfl (js [3,0,1,2,4] rfl (xVk be (rN G) λ_=>qK (jE 14 rfl (js [0,2,1,3,4,5] rfl (jPL ak λ_=>qK ?_)))))));refine jE 15 rfl (jRl 1 (ixh G) λ_ cj=>qK (jE 16 rfl (js [1,0,2,3,4] rfl (xXa cj (dL (ixh G)) rfl (qK (iT (aH (xU m1 (jo rfl ?_)))))))));refine kD (aI al (jh (λH=>H.um) (js [1,3,4,2,5] rfl ?_)));exact jg ⟨_,ls⟩
    refine jh (λH=>kE.w j2 H) (uL (λH=>El.agg) λ_=>qK (jE 10 rfl (jRl 3 G λ_ cm=>qK (jE 11 rfl (js [3,0,1,2,4] rfl (xVk cm (rN G) λ_=>qK (jE 14 rfl ?_)))))));refine js [0,2,1,3,4,5] rfl (jPL ak λ_=>qK (jE 15 rfl (jRl 1 (ixh G) λ_ cn=>qK (jE 16 rfl (js [1,0,2,3,4] rfl (xXa cn (dL (ixh G)) rfl (qK (iT ?_))))))));refine aH (xU m1 (xC 1 rfl (aI al (jh (λH=>H.um) (js [1,3,4,2,5] rfl ?_)))));exact jg ⟨_,ls⟩
   refine aH (xU (qG ad i2) (xC 1 rfl (js [1,0,2,3] rfl ?_)));exact jg ⟨_,_,ls⟩
  refine oO (xS 2 rfl (js [2,0,1,3] rfl (jh (λH=>Sep.rr H) (aI b8 (js [3,1,2,4] rfl ?_)))));exact j1 (rt rfl) ⟨_,_,_,_,_,K,h1,I,xO,lv⟩
 refine jdp (f:=4) (ls:=#[true,true,true,true,true,true,true,true,true,true,true,true,false,false,false,false]) (.v λam=>.v λbf=>.fa (xL p) <| .st [(1,xA c),(2,oK x),(20,(.agg #[xA d.size,e])),(21,xA c),(26,am),(27,bf),(31,xA p)] [rl 1 (bO 2 kE 243) 244 am z2,rl 1 xF 2 bf ([(-1)])]) (λam _ i9=>?_) (λH2=>?_)
 ·refine jE 12 rfl (jk (λH=>aV A c2 _ aA (H.l 1 rfl) i9) λe8=>qK (js [1,0] rfl ?_));exact H1 ⟨_,_,ls⟩
 refine jdp (f:=5) (ls:=#[true,true,true,true,true,true,false,true,true,true,true,true,false,false,false,false]) (.v λan=>.fa (xL p) <| .fa (xL p) <| .st [(1,xA c),(2,oK x),(20,(.agg #[xA d.size,e])),(21,xA c),(25,xA p),(27,an),(31,xA p)] [rl 1 xF 2 an ([(-1)])]) (λan _ bg=>?_) (λH3=>?_)
 ·
  refine eG (λH=>H) 6 12 rfl rfl ?_ ?_
  ·refine jRM (R:=(bO 2 kE 243)) (λw=>bO.nil w) c1 λe9=>qK ?_;exact H2 ⟨_,_,bg,ls⟩
  refine jk (λH=>aV A c2 _ aA (H.l 0 rfl) bg) λea=>qK (jE 6 rfl (jRM (R:=(bO 2 kE 243)) (λw=>bO.nil w) c1 λec=>qK (js [0,1] rfl ?_)));exact H1 ⟨_,_,ls⟩
 refine jdp (f:=5) (ls:=#[true,true,true,true,true,true,true,true,true,true,true,false,false,false,false,false]) (.v λao=>.v λaq=>.st [(1,xA c),(2,oK x),(20,(.agg #[xA d.size,e])),(21,xA c),(26,ao),(27,aq),(29,xA d.size),(30,xA c)] [rl 1 (bO 2 kE 243) 244 ao z2,rl 1 xF 2 aq ([(-1)])]) (λao aq=>?_) (λH4=>?_)
 ·refine jE 11 rfl (jk (λH=>zU p W _ aA K I) λz=>qK ?_);exact H2 ⟨_,_,z,ls⟩
 refine jdp (f:=5) (ls:=#[true,true,true,true,true,true,true,false,true,true,true,true,false,false,false,false]) (.v λar=>.fa (xL p) <| .st [(1,xA c),(2,oK x),(20,(.agg #[xA d.size,e])),(21,xA c),(26,ar),(31,xA p)] [rl 1 (bO 2 kE 243) 244 ar z2]) (λar co=>?_) (λH5=>?_)
 ·refine jE 7 rfl (lQ (λH=>Eo.int bC) λed=>qK (js [1,0] rfl ?_));exact H2 ⟨_,_,co,ls⟩
 refine jdp (f:=6) (ls:=#[true,true,true,true,true,true,false,true,true,true,true,false,false,false,false,false]) (.v λau=>.fa (xL p) <| .st [(1,xA c),(2,oK x),(20,(.agg #[xA d.size,e])),(21,xA c),(25,xA p),(27,au),(29,xA d.size),(30,xA c)] [rl 1 xF 2 au ([(-1)])]) (λau cp=>?_) (λH6=>?_)
 ·
  refine eG (λH=>H) 6 11 rfl rfl ?_ ?_
  ·refine jRM (R:=(bO 2 kE 243)) (λw=>bO.nil w) c1 λee=>qK ?_;exact H4 ⟨_,_,ls⟩
  refine jk (λH=>zU p W _ aA K I) λz=>qK ?_;exact H3 ⟨_,cp,z,ls⟩
 refine rY 0 rfl T e2 (zF [1] rfl (kB 2 rfl e2 (iG 3 rfl T e2 (zF [4] rfl (kB 8 rfl e2 (iG 9 rfl T e2 (zF [10] rfl (eG (λH=>H) 5 7 rfl rfl ?_ ?_))))))))
 ·
  refine jk (λH=>zU p W _ aA K I) λz=>qK (xKa (λH=>H) 6 7 11 rfl rfl rfl ?_ ?_ ?_)
  ·
   refine jRM (R:=(bO 2 kE 243)) (λw=>bO.nil w) c1 λef=>qK (eG (λH=>H) 7 11 rfl rfl ?_ ?_)
   ·refine lQ (λH=>Eo.int bC) λeg=>qK (js [1,0] rfl ?_);exact H4 ⟨_,_,ls⟩
   refine jk (λH=>zU p W _ aA K I) λz=>qK ?_;exact H5 ⟨_,z,ls⟩
  ·refine lQ (λH=>Eo.int bC) λeh=>qK ?_;exact H6 ⟨_,z,ls⟩
  refine jk (λH=>zU p W _ aA K I) λz=>qK (eG (λH=>H) 6 7 rfl rfl ?_ ?_)
  ·refine jRM (R:=(bO 2 kE 243)) (λw=>bO.nil w) c1 λei=>qK ?_;exact H5 ⟨_,z,ls⟩
  refine lQ (λH=>Eo.int bC) λej=>qK ?_;exact H3 ⟨_,z,z,ls⟩
 refine lQ (λH=>Eo.int bC) λek=>qK (jE 5 rfl (jk (λH=>zU p W _ aA K I) λz=>qK ?_));exact H6 ⟨_,z,ls⟩
def oH (c:List Int):Option (List Int):= xG (ap ([]) c) λd=>some d
theorem qO {h} (r) (p:oH h=some r) {c} (d) (hN:HN B d) (i:Bo B d (Sl 1 xF) c h):CG B d 214 #[c] (.v λe=>.st (e) λD=>rl 1 xF 2 e r::D):=by
 unfold oH at p
 revert r
 refine vM func214 [(0,c)] hN λr=>?_;refine xI (xK 1 rfl (jo rfl (jEn (λH=>H.a i) λ_ j=>kD (jig (λf=>?_) (λf=>?_)))))
 ·refine jt (t':=some ([])) (by rw[j f]<;>rfl) (xI (oE 1 rfl (jh (λH=>H.nl 1 xF 2) ?_)));exact j1 (rt rfl) ⟨_,lv⟩
 refine qR (jR0 xF λ_=>jo rfl (jB λx t=>(jh (λH=>H.lw) (jPf (λH=>H.a i) t λy=>jh (λH=>H.tl) (xS 1 rfl ?_)))));exact j1 (rt rfl) ⟨_,lv⟩
def aM (c:Op) (d:Int) (e:List Int):Option Int:= xG (dY d e) λf=>xG (ix c.table f) λh=>some h
theorem vG {h c i} (r) (t:aM h c i=some r) {e f} (d) (hN:HN B d) (x:Bo B d (qS 2 vU) e h) (j:xL c) (y:Bo B d (Sl 1 xF) f i):CG B d 198 #[e,xA c,f] (.fa (xL r) <| .st (xA r) λD=>D):=by
 unfold aM at t
 revert r
 refine vM func198 [(0,e),(1,xA c),(2,f)] hN λr=>?_;refine xI ?_;obtain⟨G,rfl,I,z⟩:=vU.o x;refine jX e2 λ_=>xW 1 rfl (jQ (sW e2 (jqb 0 e3 (zA 2 rfl (jB λA p=>(xRo (λH=>pZ A p _ aA j (H.a y)) λ_=>jB λK C=>(lM z C (λ_ E=>?_))))))));refine kI E λF=>zA 1 rfl (nD (nH ?_));exact qT (rt rfl) ⟨F,lv⟩
def nN (c:List Int) (d:Op) (e:Int):Option Bool:= xG (ix c 0) λf=>xG (qH c d.arity) λh=>xG (aM d e h) λi=>some ((i==f))
theorem xHx {h i j} (r) (x:nN h i j=some r) {d e f} (c) (hN:HN B c) (p:Bo B c (Sl 1 xF) d h) (t:Bo B c (Pt 2 vU) e i) (y:Bo B c (Pt 1 xF) f j):CG B c 197 #[d,e,f] (.st (.bool r) λD=>D):=by
 unfold nN at x
 revert r
 refine vM func197 [(0,d),(1,e),(2,f)] hN λr=>?_;refine xI (xW 1 rfl (jB λO z=>(jB λA C=>(jB λE F=>(jD (xFg 0 rfl t λ_ G=>aW 1 rfl y λI=>zF [2] rfl (iO 3 rfl t vU.f0 (λ_ K=>?_))))))));refine aW 4 rfl K λL=>zF [7] rfl (pQ 8 rfl p z λ_ M=>aW 9 rfl M λ_=>jE 5 rfl (jk (λH=>aV A C _ aA (H.a p) L) λ_=>qK (jE 6 rfl (jk (λH=>vG E F _ aA (H.a G) I (H.l 0 rfl)) λN=>qK (zF [10,11] rfl ?_)))));refine iT (nH ?_);exact qT (rt rfl) lv
def aB (N:Nat) (c d:Int) (e:(List Int)->Option Bool):Option Bool:= xG (vA c d) λf=>oZ (σ:=Unit) (qM (λh s=>match s with | _=>xG (qQ N c d (h:Int)) λi=>xG (e i) λj=>if (!j) then some (.ret false) else some (.go ())) f.toNat 0 ()) λ_=>some true
theorem nT {e f x} (r) (G:aB N e f x=some r) {c h} (i) (hN:HN B i) (j:xL e) (p:xL f) (E:∀ args w,(callFunc c args).run prog w= .ok (.enter c args) w) (F:∀ (y:List Int) (r:Bool),x y=some r->∀ W,Below i.heap.size i W->∀ (z:Vl),Bo (All W) W (Sl 1 xF) z y->Calls prog c ([z]++h:List Vl).toArray W (Gt (All W) W [] (.st (.bool r) λD=>D))):CG B i 196 #[xA e,xA f,.func (.func c) #[] h.toArray] (.st (.bool r) λD=>D):=by
 unfold aB at G
 revert r
 refine vM func196 [(0,xA e),(1,xA f),(2,.func (.func c) #[] h.toArray)] hN λr=>?_;refine xI (xK 1 rfl (jA 2 rfl (jB λA I=>(jk (λH=>zU A I _ aA j p) λt=>xC 1 rfl (qZ (λ_=>.st [] []) ?_ (λ_=>?_))))))
 ·
  refine zK (jc (λC _=>.st [(11,xA (C:Int)),(0,xA e),(1,xA f),(2,.func (.func c) #[] h.toArray),(10,xA A)] []) ls (λ_ _ _ d=>?_) (λ_ C _ d=>?_))
  ·have K:=vD d;refine xI (xW 1 rfl (kJ K (xN ?_)));exact jf ls
  refine xI (xW 1 rfl (kO (qP d) (xY (qE (xM 2 rfl (jA 4 rfl (jB λL M=>(jk (λH=>lC L M _ aA j p (dT d t)) (λ_=>?_)))))))));refine jB λO P=>?_;refine jkV E e2 (λH=>F _ O P _ H.bl _ (H.l 0 rfl)) (xC 1 rfl (xT ?_ ?_))
  ·refine xI (oY 1 rfl (fZ (zR (fH (lD ?_)))));exact qT (rt rfl) lv
  refine qJ (xU (vY d t) (xC 1 rfl (js [] rfl ?_)));exact jg ls
 refine oO (xS 1 rfl ?_);exact qT (rt rfl) lv
def bV (c:List Int) (d:Int):Option Int:= oZ (σ:=Unit) (oM (λe (f:Int) s=>match s with | _=>if (d==f) then some (.ret ((e:Int))) else some (.go ())) c 0 ()) λ_=>some ((-1))
theorem sK {f c} (r) (t:bV f c=some r) {d} (h) (hN:HN B h) (i:Bo B h (Sl 1 xF) d f) (C:xL c):CG B h 241 #[d,xA c] (.fa (xL r) <| .st (xA r) λD=>D):=by
 unfold bV at t
 revert r
 refine vM func241 [(0,d),(1,xA c)] hN λr=>?_;refine xI (xK 1 rfl (jo rfl (jL i λj=>xC 1 rfl (qZ (λ_=>.st [] []) ?_ (λ_=>?_)))))
 ·
  refine zK (jl (λp _=>.st [(8,xA (p:Int)),(0,d),(1,xA c),(7,xA (f.length:Int))] []) ls (λ_ _ _ x=>?_) (λp _ _ e y=>?_))
  ·have z:=oU x;refine xI (xW 1 rfl (kJ z (xN ?_)));exact jf ls
  refine xI (xW 1 rfl (kO (xX e) (xY (qE (xM 2 rfl (jA 3 rfl (jI i y λ_ A=>aP A (λ_=>?_))))))));refine xC 1 rfl (xT ?_ ?_)
  ·refine xI (oY 2 rfl (fZ (zR (fH (lD ?_)))));exact qT (rt rfl) ⟨(dS (Ah e) j),lv⟩
  refine qJ (xU (qG e j) (xC 1 rfl ?_));exact jg ls
 refine oO (xS 1 rfl ?_);exact qT (rt rfl) ⟨bC,lv⟩
def vJ (c:List Int) (d:Int):Option Bool:= xG (bV c d) λe=>some ((decide (0<=e)))
theorem cJ {f c} (r) (i:vJ f c=some r) {d} (e) (hN:HN B e) (j:Bo B e (Sl 1 xF) d f) (h:xL c):CG B e 200 #[d,xA c] (.st (.bool r) λD=>D):=by
 unfold vJ at i
 revert r
 refine vM func200 [(0,d),(1,xA c)] hN λr=>?_;refine xI (xM 1 rfl (jA 2 rfl (jB λp t=>(jk (λH=>sK p t _ aA (H.a j) h) λx=>xS 2 rfl ?_))));exact qT (rt rfl) lv
def iL (c:List Int) (d:Op) (e:Int):Option Bool:= xG (oH c) λh=>xG (zS h) λf=>xG (aM d e c) λi=>xG (aM d e f) λj=>some ((i==j))
theorem xCc {h i j} (r) (y:iL h i j=some r) {d e f} (c) (hN:HN B c) (p:Bo B c (Sl 1 xF) d h) (t:Bo B c (Pt 2 vU) e i) (x:Bo B c (Pt 1 xF) f j):CG B c 242 #[d,e,f] (.st (.bool r) λD=>D):=by
 unfold iL at y
 revert r
 refine vM func242 [(0,d),(1,e),(2,f)] hN λr=>?_;refine xI (xM 1 rfl (jo rfl (jB λz A=>(jk (λH=>qO z A _ aA (H.a p)) λ_=>xM 1 rfl (jo rfl (jB λO C=>(oJm C ?_)))))));refine yD (jQ (xJu t λ_ E=>kI x λF=>zA 1 rfl (jB λG I=>(xRo (λH=>vG G I _ aA (H.a E) F (H.a p)) λ_=>xJu t λ_ K=>kI x λL=>zA 1 rfl (jB λM N=>?_)))));refine xRo (λH=>vG M N _ aA (H.a K) L (H.l 0 rfl)) λ_=>zA 2 rfl (nD (nH ?_));exact qT (rt rfl) lv
def cQ (N:Nat) (d:Int) (c:Op):Option Bool:= xG (aB N d c.arity (λf=>iL f (Op.mk c.arity c.table) d)) λe=>some e
theorem uD {c i} (r) (x:cQ N c i=some r) {d} (e) (hN:HN B e) (f:xL c) (y:Bo B e (qS 2 vU) d i):CG B e 201 #[xA c,d] (.st (.bool r) λD=>D):=by
 unfold cQ at x
 revert r
 refine vM func201 [(0,xA c),(1,d)] hN λr=>?_;refine xI (jX e2 (λ_=>?_));obtain⟨C,rfl,j,z⟩:=vU.o y;refine jX e2 λ_=>xM 1 rfl (jb 1 e3 (xZ e2 (jb 0 e3 (dJ e2 (jB λt A=>(jk (λH=>nT t A _ aA f j call242 (λE r h W p F f0=>xCc r h W aA f0 ((vU.b (H.g 0 rfl).bk j (H.a z)).w p) ((c1I (H.g 1 rfl).bk f).w p))) (xS 1 rfl ?_)))))));exact qT (rt rfl) lv
end Go.Proofs.YtnjlbbfcngjhmaaGreat
