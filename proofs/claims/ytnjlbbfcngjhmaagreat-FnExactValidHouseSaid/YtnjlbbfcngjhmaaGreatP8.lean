import Derived.Test.YtnjlbbfcngjhmaaGreatP7
namespace Go.Proofs.YtnjlbbfcngjhmaaGreat
set_option linter.unusedVariables false
set_option linter.unusedSimpArgs false
open Go.Proofs.Tryz
set_option maxHeartbeats 1000000
set_option maxRecDepth 100000
open Go.RowKit
variable {B:Nat->Prop} {N:Nat}
def vW (N:Nat) (c:A6) (e h:Int):Option (Op×Int):= xG (gX (A6.mk c.size c.rels) e) λi=>if (i != 0) then some ((Op.mk 0 ([])),i) else xG (xCg h) λj=>if (!j) then some ((Op.mk 0 ([])),2) else xG (mJ (A6.mk c.size c.rels) e) λp=>if (decide (4000<p)) then some ((Op.mk 0 ([])),3) else xG (mA N (A6.mk c.size c.rels) e) λd=>xG (gQ N d.1 d.2.1 d.2.2.1 d.2.2.2.1 d.2.2.2.2.1 d.2.2.2.2.2.1 d.2.2.2.2.2.2.1 ([]) (A6.mk c.size c.rels) h) λf=>some ((Op.mk f.1.arity f.1.table),f.2.1)
theorem nQ {y d e} (r) (F:vW N y d e=some r) {j} (p) (hN:HN B p) (G:Bo B p (qS 2 xB) j y) (i:xL d) (t:xL e):CG B p 87 #[j,xA d,xA e] (.v λx=>.fa (xL r.1.arity) <| .fa (xL r.2) <| .st (.tuple #[.agg #[xA r.1.arity,x],xA r.2]) λD=>rl 1 xF 2 x r.1.table::D):=by
 unfold vW at F
 revert r
 refine vM func87 [(0,j),(1,xA d),(2,xA e)] hN λr=>?_;refine xI ?_;obtain⟨v1,rfl,f,h⟩:=xB.o G;refine jX e2 λ_=>jX e2 λ_=>aK rfl λa3=>xK 1 rfl (aG 2 e3 (jo rfl (jB λI K=>?_)));refine jk (λH=>xDv I K _ aA (xB.m f (H.a h)) i) λA=>xM 1 rfl (xC 2 rfl (xT ?_ ?_))
 ·refine xI (oV e5 (jo rfl (zX e3 (oE 1 rfl ?_))));exact nJ (λH=>(H.nl 1 xF 2).s [0] rfl rfl) (dA 0 e2) (rt rfl) ⟨_,xO,A,lv⟩
 refine nK (jb 1 e3 (jB λL M=>(jk (λH=>xRp L M _ aA t) (xC 2 rfl (xT ?_ ?_)))))
 ·refine xI (oV e5 (zX e3 (bA 1 rfl ?_)));exact nJ (λH=>(H.nl 1 xF 2).s [0] rfl rfl) (dA 0 e2) (rt rfl) ⟨_,xO,rH,lv⟩
 refine xI (aG 2 e3 (jo rfl (jB λO P=>?_)));refine jk (λH=>xGl O P _ aA (xB.m f (H.a h)) i) λa4=>xC 2 rfl (xT ?_ ?_)
 ·refine xI (oV e5 (zX e3 (bA 1 rfl ?_)));exact nJ (λH=>(H.nl 1 xF 2).s [0] rfl rfl) (dA 0 e2) (rt rfl) ⟨_,xO,lL,lv⟩
 refine wB (aG 2 e3 (jo rfl (jB λQ R=>?_)));refine jkB (λH=>xGb Q R _ H.hN (xB.m f (H.u h)) i) λb1 v2 v3 v4 v5 C S T U=>dJ e2 (jh (λH=>H.nl 1 xF 2) (js [2,3,4,7,6,0,1,5] rfl (jh (λH=>H.mg) (jh (λH=>H.mg) (jh (λH=>H.mg) (jh (λH=>H.mg) (cZ λw1 X1 N1 _ c z E _=>?_)))))));have W:=c.l.r.bk;have X:=c.r.bk;refine jB λY Z=>(js [1,0,2] rfl (jko 2 (λK3 H=>xAs Y Z _ H.hN K3 C (H.u (z S)) T (H.u c.l.l.l.l.ld) (H.u c.l.l.l.r.ld) (H.u c.l.l.r.ld) U (xB.b (W.to H.sm) f (H.u (z h))) (c1I (X.to H.sm) t)) λa5 _ i4 i5 _=>jA 2 rfl (js [3,0,1,2] rfl ?_)));refine zX (hv:=(λH=>oc rfl (oc (H.l 1 rfl).one on))) e3 (xS 1 rfl (aI E (jh (λH=>H.um) (jh (λH=>H.um) (jh (λH=>H.um) (jh (λH=>H.um) ?_))))));exact nJ (λH=>H.s [6] rfl rfl) (dA 5 e2) (rt rfl) ⟨_,i4,i5,lv⟩
def gA (c:Int):Option Bool:= oZ (σ:=Bool) (if (c==2) then  some (.nx true) else  some (.nx (c==3))) λd=>some d
theorem uA {c} (r) (e:gA c=some r) (d) (hN:HN B d) (h:xL c):CG B d 88 #[xA c] (.st (.bool r) λD=>D):=by
 unfold gA at e
 revert r
 refine vM func88 [(0,xA c)] hN λr=>?_;refine xI (xW 1 rfl (qZ (λf=>.st [(2,.bool f)] []) ?_ (λ_=>?_)))
 ·
  refine lP (jA 3 rfl (fD 5 (λ_=>?_) (λ_=>?_)))
  ·refine xC 4 rfl ?_;exact jf ls
  refine xC 4 rfl ?_;exact jf ls
 refine nH ?_;exact qT (rt rfl) lv
def nU (c:List Int) (d:Int):Option Int:= xG (ix c 0) λf=>xG (ix c 1) λe=>xG (ck (f - e)) λh=>xG (ix c 2) λi=>xG (ck (h+i)) λj=>xG (ck (j+d)) λp=>xG (rm p d) λt=>some t
theorem xEw {i j} (r) (x:nU i j=some r) {d e} (c) (hN:HN B c) (f:Bo B c (Sl 1 xF) d i) (p:Bo B c (Pt 1 xF) e j):CG B c 140 #[d,e] (.fa (xL r) <| .st (xA r) λD=>D):=by
 unfold nU at x
 revert r
 refine vM func140 [(0,d),(1,e)] hN λr=>?_;refine xI (xW 1 rfl (jQ (zA 1 rfl (jB λN y=>(lM f y λ_ z=>kI z λ_=>zA 1 rfl (jB λM A=>(lM f A (λ_ C=>?_))))))));refine kI C λ_=>jB λO E=>(jqv (λF H w l=>xBb F rfl rfl E) (zA 1 rfl (jB λP G=>(lM f G λ_ I=>kI I λ_=>jB λQ K=>(jqv (λF H w l=>wH F rfl rfl K) (kI p λ_=>jB λR h=>?_))))));refine jqv (λF H w l=>wH F rfl rfl h) (kI p λL=>jB λS t=>(jqv (λF H w l=>xEk F rfl rfl t) (zA 1 rfl (nD (nH ?_)))));exact qT (rt rfl) ⟨(xGs t (kA h) L),lv⟩
def gK (N:Nat) (c:Int):Option Op:= xG (tM N c 3 (λe=>nU e c)) λd=>some ((Op.mk d.arity d.table))
theorem xAd {c} (r) (i:gK N c=some r) (f) (hN:HN B f) (d:xL c):CG B f 91 #[xA c] (.v λe=>.fa (xL r.arity) <| .st (.agg #[xA r.arity,e]) λD=>rl 1 xF 2 e r.table::D):=by
 unfold gK at i
 revert r
 refine vM func91 [(0,xA c)] hN λr=>?_;refine xI (jX e2 λ_=>aK rfl λ_=>qW (jb 1 e3 (dJ e2 (jB λj p=>(jk (λH=>xHt j p _ aA d lL call140 (λz r h W t A f0=>xEw r h W aA f0 ((c1I (H.g 1 rfl).bk d).w t))) λy x=>js [1,0,2] rfl ?_)))));refine zX (hv:=(λH=>oc rfl (oc (H.l 1 rfl).one on))) e3 (pM ?_);exact j1m (λH=>H.s [1] rfl rfl) (dA 0 e2) ⟨_,x,lv⟩
def eF (N:Nat) (d:Int) (c:Rel):Option Bool:= oZ (σ:=Bool) (if (decide (0<(c.tuples.length:Int))) then  xG (gK N d) λe=>xG (dP N d (Op.mk e.arity e.table) (Rel.mk c.arity c.tuples)) λf=>some (.nx f) else  some (.nx false)) λh=>some h
theorem xAi {c j} (r) (z:eF N c j=some r) {e} (f) (hN:HN B f) (i:xL c) (A:Bo B f (qS 2 oQ) e j):CG B f 90 #[xA c,e] (.st (.bool r) λD=>D):=by
 unfold eF at z
 revert r
 refine vM func90 [(0,xA c),(1,e)] hN λr=>?_;refine xI ?_;obtain⟨P,rfl,C,h⟩:=oQ.o A;refine jX e2 λ_=>xW 1 rfl (qZ (λE=>.st [(4,.bool E)] []) ?_ (λ_=>?_))
 ·
  refine jbs (λd=>?_) (λd=>?_)
  ·refine jB λF G=>(jB λt I=>(cZ λ_ _ _ _ K L x _=>?_));have p:=K.bk;refine jD (kB 0 rfl e2 (iG 1 rfl p e2 (jvL 2 rfl h λ_=>zF [3] rfl (jeq 8 d (zF [4,5,6] rfl (rY 8 rfl p e2 (jE 7 rfl (jk (λH=>xAd F G _ aA i) λ_ M=>qK ?_))))))));refine jE 9 rfl ?_;refine jk (λH=>xEv t I _ aA i (vU.m M (H.l 0 rfl)) (oQ.m C (H.a (L h)))) (qK (zF [10,11] rfl (iT (eD (js [] rfl (aI x (js [] rfl ?_)))))));exact jf ls
  refine cZ λ_ _ _ _ O _ y _=>(jD (kB 0 rfl e2 (iG 1 rfl O.bk e2 (jvL 2 rfl h λ_=>zF [3] rfl (jeq 8 d (zF [4,5,6,7,8,9,10,11] rfl (iT (eD (aI y ?_)))))))));refine js [] rfl ?_;exact jf ls
 refine nH ?_;exact qT (rt rfl) lv
def iF (N:Nat) (c:Rel) (d:A6):Option Bool:= xG (eF N d.size (Rel.mk c.arity c.tuples)) λe=>some ((!e))
theorem xDq {f h} (r) (j:iF N f h=some r) {d e} (c) (hN:HN B c) (p:Bo B c (qS 2 oQ) d f) (t:Bo B c (Pt 2 xB) e h):CG B c 89 #[d,e] (.st (.bool r) λD=>D):=by
 unfold iF at j
 revert r
 refine vM func89 [(0,d),(1,e)] hN λr=>?_;refine xI ?_;obtain⟨E,rfl,x,y⟩:=oQ.o p;refine jX e2 λ_=>xM 1 rfl (aF t xB.f0 λ_ i=>aP i λz=>aG 0 e3 (jB λA C=>?_));refine jk (λH=>xAi A C _ aA z (oQ.m x (H.a y))) (xS 2 rfl ?_);exact qT (rt rfl) lv
def lR (N:Nat) (c:A6):Option (Int×Op×Int):= xG (zD (A6.mk c.size c.rels)) λj=>if (!j) then some (0,(Op.mk 0 ([])),1) else xG (qX c.rels (λe=>mP e)) λp=>oZ (σ:=Unit) (if (!p) then oZ (σ:=Unit) (qM (λt s=>match s with | _=>xG (bQ N c.size 1 (t:Int)) λd=>xG (cA N (A6.mk c.size c.rels) (Op.mk d.arity d.table)) λx=>if x then some (.ret (.ret (1,(Op.mk d.arity d.table),0))) else some (.go ())) c.size.toNat 0 ()) λ_=>some (.nx ()) else some (.nx ())) λ_=>xG (vW N (A6.mk c.size c.rels) 2 6) λf=>if (f.2==0) then some (2,(Op.mk f.1.arity f.1.table),0) else xG (vW N (A6.mk c.size c.rels) 3 7) λh=>if (h.2==0) then some (3,(Op.mk h.1.arity h.1.table),0) else oZ (σ:=Bool) (xG (gA c.size) λy=>if y then  xG (qX c.rels (λe=>iF N e (A6.mk c.size c.rels))) λz=>some (.nx (!z)) else  some (.nx false)) λA=>if A then xG (gK N c.size) λi=>some (4,(Op.mk i.arity i.table),0) else some (0,(Op.mk 0 ([])),6)
theorem xGc {f} (r) (K:lR N f=some r) {t} (x) (hN:HN B x) (L:Bo B x (qS 2 xB) t f):CG B x 46 #[t] (.v λy=>.fa (xL r.1) <| .fa (xL r.2.1.arity) <| .fa (xL r.2.2) <| .st (.tuple #[xA r.1,.agg #[xA r.2.1.arity,y],xA r.2.2]) λD=>rl 1 xF 2 y r.2.1.table::D):=by
 unfold lR at K
 revert r
 refine vM func46 [(0,t)] hN λr=>?_;refine xI ?_;obtain⟨p,rfl,c,i⟩:=xB.o L;refine jX e2 λd=>jo rfl (aK rfl λe=>xK 1 rfl (aG 1 e3 (jB λE M=>?_)));refine jk (λH=>fY E M _ aA (xB.m c (H.a i))) (xC 1 rfl (xT ?_ ?_))
 ·refine xI (oV e5 (jo rfl (zX e3 (oE 1 rfl ?_))));exact j3m (λH=>(H.nl 1 xF 2).s [0] rfl rfl) (rt rfl) (dA 0 e2) (rt rfl) ⟨_,xO,xO,zL,lv⟩
 refine vT (xZ e2 (jb 1 e3 (jB λO P=>(jk (λH=>aJ O P _ aA (H.a i) call84 (λQ r h W z R f0=>xCb r h W aA f0)) (xC 1 rfl ?_)))));refine qZ (λ_=>.st [(1,oK d),(3,oK e)] [bx e [xA 0,kW] 85,bx d [xA f.size,p] 32]) ?_ (λ_=>?_)
 ·
  refine xT ?_ ?_
  ·
   refine xI (xZ e2 (jb 1 e3 (xC 1 rfl ?_)));refine qZ (λ_=>.st [(1,oK d),(3,oK e)] [bx e [xA 0,kW] 85,bx d [xA f.size,p] 32]) ?_ (λ_=>?_)
   ·
    refine zK ?_;refine jc (λA _=>.st [(21,xA (A:Int)),(1,oK d),(3,oK e),(20,xA f.size)] [bx e [xA 0,kW] 85,bx d [xA f.size,p] 32]) ls (λ_ _ _ j=>?_) (λ_ A _ j=>?_)
    ·have S:=vD j;refine xI (xW 1 rfl (kJ S (xN ?_)));exact jf ls
    refine xI (xW 1 rfl (kO (qP j) (xY (qE (xM 2 rfl (xZ e2 (jb 1 e3 (jo rfl ?_))))))));refine jB λT U=>(jk (λH=>xAf T U _ aA c zL (dT j c)) λv2 C=>aK rfl (λ_=>?_));refine zX (hv:=(λH=>oc rfl (oc (H.l 1 rfl).one on))) e3 (qW (aG 3 e3 (aG 0 e3 (jB λX Y=>?_))));refine jk (λH=>wO X Y _ aA (xB.m c (H.a i)) (vU.m C (H.l 1 rfl))) (kD (xT ?_ ?_))
    ·refine a_s (cZ λ_ _ _ _ Z _ F _=>(jD (rY 0 rfl Z.bk e2 (zF [1] rfl (jE 2 rfl (js [1,0,2] rfl ?_))))));refine zX (hv:=(λH=>oc rfl (oc (H.l 1 rfl).one on))) e3 (qK (zF [3] rfl (iT (xPm (fZ (zR (fH (lD (fH (lD ?_))))))))));refine aI F ?_;exact j3m (λH=>H.s [2] rfl rfl) (rt rfl) (dA 1 e2) (rt rfl) ⟨_,zL,C,xO,lv⟩
    refine qJ (xU (vY j c) (xC 1 rfl (js [2,3] rfl ?_)));exact jg ls
   refine eD ?_;exact jf ls
  refine xTx ?_;exact jf ls
 refine cF (aG 1 e3 (jB λz4 c5=>?_));refine jk (λH=>nQ z4 c5 _ aA (xB.m c (H.a i)) rH sS) λv3 i3 _=>jA 3 rfl (aK rfl (λ_=>?_));refine zX (hv:=(λH=>oc rfl (oc (H.l 1 rfl).one on))) e3 (xM 1 rfl (xC 2 rfl (xT ?_ ?_)))
 ·refine a_s (cZ λ_ _ _ _ g2 _ G _=>(jD (rY 0 rfl g2.bk e2 (zF [1] rfl (jE 2 rfl (js [1,0,2] rfl ?_))))));refine zX (hv:=(λH=>oc rfl (oc (H.l 1 rfl).one on))) e3 (qK (zF [3] rfl (iT (xRf (aI G ?_)))));exact j3m (λH=>H.s [2] rfl rfl) (rt rfl) (dA 1 e2) (rt rfl) ⟨_,rH,i3,xO,lv⟩
 refine vT (aG 3 e3 (jB λz5 c6=>?_));refine jk (λH=>nQ z5 c6 _ aA (xB.m c (H.a i)) lL xNf) λv4 i4 _=>jA 3 rfl (aK rfl (λ_=>?_));refine zX (hv:=(λH=>oc rfl (oc (H.l 1 rfl).one on))) e3 (xM 1 rfl (xC 2 rfl (xT ?_ ?_)))
 ·refine a_s (cZ λ_ _ _ _ g3 _ I _=>(jD (rY 0 rfl g3.bk e2 (zF [1] rfl (jE 2 rfl (js [3,0,1,2,4] rfl ?_))))));refine zX (hv:=(λH=>oc rfl (oc (H.l 1 rfl).one on))) e3 (qK (zF [3] rfl (iT (xRf (aI I ?_)))));exact j3m (λH=>H.s [2] rfl rfl) (rt rfl) (dA 1 e2) (rt rfl) ⟨_,lL,i4,xO,lv⟩
 refine xLb ?_;refine qZ (λs1=>.st [(1,oK d),(3,oK e),(58,.bool s1)] [bx e [xA 0,kW] 85,bx d [xA f.size,p] 32]) ?_ (λ_=>?_)
 ·
  refine lP (xZ e2 (jb 5 e3 (jB λz6 c7=>(jk (λH=>uA z6 c7 _ aA c) (jo rfl (fD 52 (λ_=>?_) (λ_=>?_)))))))
  ·refine xZ e2 (jb 5 e3 (dJ e2 (jB λz7 c8=>(jk (λH=>aJ z7 c8 _ aA (H.a i) call89 (λQ r h W z R f0=>xDq r h W aA f0 ((xB.b (H.g 5 rfl).bk c (H.a i)).w z))) (xC 2 rfl (js [4,5] rfl ?_))))));exact jf ls
  refine xC 6 rfl (js [4,5] rfl ?_);exact jf ls
 refine eD (xT ?_ ?_)
 ·refine xI (xZ e2 (jb 1 e3 (jB λz8 c9=>(jk (λH=>xAd z8 c9 _ aA c) λv5 i5=>jo rfl (js [1,0,2] rfl ?_)))));refine zX (hv:=(λH=>oc rfl (oc (H.l 1 rfl).one on))) e3 (oE 1 rfl ?_);exact j3m (λH=>H.s [1] rfl rfl) (rt rfl) (dA 0 e2) (rt rfl) ⟨_,uC,i5,xO,lv⟩
 refine qR (oV e5 (jo rfl (zX e3 (xS 1 rfl ?_))));exact j3m (λH=>(H.nl 1 xF 2).s [0] rfl rfl) (rt rfl) (dA 0 e2) (rt rfl) ⟨_,xO,xO,sS,lv⟩
def wE (c d:List Int):Option (List Int):= oZ (σ:=List Int) (oM (λp (e:Int) f=>xG (ix c e) λh=>xG (ap f ([h])) λi=>some (.go i)) d 0 []) λj=>some j
theorem xMb {t h} (r) (C:wE t h=some r) {c d} (e) (hN:HN B e) (E:Bo B e (Sl 1 xF) c t) (x:Bo B e (Sl 1 xF) d h):CG B e 211 #[c,d] (.v λp=>.st (p) λD=>rl 1 xF 2 p r::D):=by
 unfold wE at C
 revert r
 refine vM func211 [(0,c),(1,d)] hN λr=>?_;refine xI (xM 1 rfl (jR0 xF λQ=>xK 1 rfl (jo rfl (jL x λy=>xC 1 rfl (qZ (λF=>.v λi=>.st [(5,i)] [rl 1 xF 2 i F]) ?_ (λ_ i=>?_))))))
 ·
  refine zK ?_;refine jl (λz A=>.v λj=>.st [(11,xA (z:Int)),(0,c),(5,j),(9,d),(10,xA (h.length:Int))] [rl 1 xF 2 j A]) ⟨_,ls⟩ (λ_ A _ G j=>?_) (λz _ _ f I _=>?_)
  ·have K:=oU G;refine xI (xW 1 rfl (kJ K (xN ?_)));exact jf ⟨_,ls⟩
  refine xI (xW 1 rfl (kO (xX f) (xY ?_)));have j2:=dS (Ah f) y;refine qE (jI x I λ_ L=>aP L λ_=>jo rfl (lT (jA 3 rfl (jB λR M=>(jI E M λ_ N=>aP N λO=>lQ (λH=>Eo.int O) λ_=>jB λS P=>?_)))));refine js [1,0] rfl (jPL P λT=>kZ 1 rfl (xU (qG f y) (xC 1 rfl ?_)));exact jg ⟨_,ls⟩
 refine oO (xS 2 rfl ?_);exact j1 (rt rfl) ⟨_,lv⟩
def vR (N:Nat) (c:List (List Int)) (i:List Int) (j:(List Int)->(List Int)->Option Int):Option (Int×Bool):= oZ (σ:=Int×Int) (mL (λs=>match s with | (d,e)=>if (decide (d<e)) then xG (ck (d+e)) λp=>xG (nn p) λh=>xG (ix c (h / 2)) λt=>xG (j t i) λx=>if (decide (x<0)) then xG (ck ((h / 2)+1)) λy=>some (.go (y,e)) else some (.go (d,(h / 2))) else some (.brk (d,e))) N (0,(c.length:Int))) λ(f,D)=>oZ (σ:=Int×Bool) (if (decide (f<(c.length:Int))) then  xG (ix c f) λz=>xG (j z i) λA=>some (.nx (f,(A==0))) else  some (.nx (f,false))) λ(B,C)=>some (B,C)
theorem eO {p G I} (r) (hR:vR N p G I=some r) {h i d f} (e) (hN:HN B e) (t:Bo B e (Sl 1 (kP 1 xF)) h p) (K:Bo B e (Sl 1 xF) i G) (E:∀ args w,(callFunc d args).run prog w= .ok (.enter d args) w) (F:∀ (L M:List Int) (r:Int),I L M=some r->∀ W,Below e.heap.size e W->∀ (O P:Vl),Bo (All W) W (Sl 1 xF) O L->Bo (All W) W (Sl 1 xF) P M->Calls prog d ([O,P]++f:List Vl).toArray W (Gt (All W) W [] (.fa (xL r) <| .st (xA r) λD=>D))):CG B e 247 #[h,i,.func (.func d) #[] f.toArray] (.fa (xL r.1) <| .st (.tuple #[xA r.1,.bool r.2]) λD=>D):=by
 unfold vR at hR
 revert r
 refine vM func247 [(0,h),(1,i),(2,.func (.func d) #[] f.toArray)] hN λr=>?_;refine xI (xM 2 rfl (jo rfl (jL t λi1=>xM 1 rfl (xW 3 rfl (qZ (λ(x,Q)=>.fa (xL x) <| .fa (xL Q) <| .st [(0,h),(1,i),(2,.func (.func d) #[] f.toArray),(8,xA (p.length:Int)),(9,xA x)] []) ?_ (λ(x,Q) R _=>?_))))))
 ·
  refine zK ?_;refine jw (λ(y,z)=>.fa (xL y) <| .fa (xL z) <| .st [(0,h),(1,i),(2,.func (.func d) #[] f.toArray),(8,xA (p.length:Int)),(9,xA y),(10,xA z)] []) ⟨xO,i1,ls⟩ (λ_ (y,z) S T=>?_);refine xR (xC 3 rfl (xT ?_ ?_))
  ·
   refine xCj (jA 2 rfl (jB λz1 A=>(bN A (jB λj c=>?_))))
   have U:xL j:=by rw[(wF c).2];exact(kA A)
   refine jU1 (kA A) c (jU2 rfl (jU3 (xYa U (wF (show nn j=some j by rw[(wF c).2];exact((wF c).2.symm ▸ c))).1) (xM 1 rfl (jA 3 rfl (jB λz3 c3=>(jI t c3 λ_ h1=>aR h1 λ_ Z=>jo rfl (jB λz4 c4=>?_)))))));refine jkV E e2 (λH=>F _ _ z4 c4 _ H.bl _ _ (H.a Z) (H.a K)) λac=>xC 1 rfl (xT ?_ ?_)
   ·refine lP (jo rfl (jB λz5 X=>(bN X (jo rfl (xNc ?_)))));exact jg ⟨(kA X),T,ls⟩
   refine lP (jA 2 rfl (xNc ?_));exact jg ⟨S,(xYa U (wF (show nn j=some j by rw[(wF c).2];exact((wF c).2.symm ▸ c))).1),ls⟩
  refine nS (jbk (wJ ?_));exact jf ⟨S,T,ls⟩
 refine xMp (qZ (λ(C,Y)=>.fa (xL C) <| .st [(6,xA C),(7,.bool Y)] []) ?_ (λ(C,Y) i6=>?_))
 ·
  refine lP (jA 5 rfl (fD 39 (λ_=>?_) (λ_=>?_)))
  ·refine jA 3 rfl (jB λz6 c6=>(jI t c6 λ_ h2=>aR h2 λ_ h3=>jo rfl (jB λz7 c7=>?_)));refine jkV E e2 (λH=>F _ _ z7 c7 _ H.bl _ _ (H.a h3) (H.a K)) λad=>xC 4 rfl ?_;exact jf ⟨R,ls⟩
  refine xC 11 rfl ?_;exact jf ⟨R,ls⟩
 refine nH ?_;exact j2 (rt rfl) (rt rfl) ⟨i6,lv⟩
def lW (c d:List Int):Option Int:= xG (zC c d) λe=>some e
theorem xGe {f h} (r) (j:lW f h=some r) {d e} (c) (hN:HN B c) (p:Bo B c (Sl 1 xF) d f) (t:Bo B c (Sl 1 xF) e h):CG B c 248 #[d,e] (.fa (xL r) <| .st (xA r) λD=>D):=by
 unfold lW at j
 revert r
 refine vM func248 [(0,d),(1,e)] hN λr=>?_;refine xI (xM 1 rfl (jA 2 rfl (jB λx y=>(jk (λH=>hU x y _ aA (H.a p) (H.a t)) λi=>xS 1 rfl ?_))));exact qT (rt rfl) ⟨i,lv⟩
def iM (N:Nat) (c:Rel) (d:List Int):Option Bool:= xG (vR N c.tuples d (λe f=>lW e f)) λh=>some h.2
theorem uI {f i} (r) (p:iM N f i=some r) {d e} (c) (hN:HN B c) (t:Bo B c (qS 2 oQ) d f) (x:Bo B c (Sl 1 xF) e i):CG B c 210 #[d,e] (.st (.bool r) λD=>D):=by
 unfold iM at p
 revert r
 refine vM func210 [(0,d),(1,e)] hN λr=>?_;refine xI ?_;obtain⟨A,rfl,C,y⟩:=oQ.o t;refine jX e2 λ_=>xM 1 rfl (xZ e2 (jb 0 e3 (jo rfl (jB λz j=>(jk (λH=>eO z j _ aA (H.a y) (H.a x) call248 (λE F r h W G I K f0 f1=>xGe r h W aA f0 f1)) λ_=>xM 5 rfl (jA 2 rfl ?_))))));refine pM ?_;exact qT (rt rfl) lv
def dI (N:Nat) (c:Con) (e:A6) (f:(List Int)):Option Bool:= xG (ix e.rels c.rel) λh=>xG (wE f c.scope) λi=>xG (iM N h i) λd=>some ((!d))
theorem xGv {p t x} (r) (A:dI N p t x=some r) {f h i} (c) (hN:HN B c) (C:Bo B c (qS 2 vS) f p) (E:Bo B c (Pt 2 xB) h t) (F:Bo B c (Pt 1 (kP 1 xF)) i x):CG B c 209 #[f,h,i] (.st (.bool r) λD=>D):=by
 unfold dI at A
 revert r
 refine vM func209 [(0,f),(1,h),(2,i)] hN λr=>?_;refine xI ?_;obtain⟨U,rfl,W,G⟩:=vS.o C;refine jX e2 λ_=>xW 1 rfl (jB λX I=>(jB λK L=>(jB λz M=>(cZ λ_ _ _ e O j d _=>?_))));have y:=O.bk;refine jD (iO 0 rfl E xB.f1 λ_ P=>rK (s:=λH w l=>(e.trans (Sm.mono (H.v w l) d.2.2))) 1 rfl P λ_ Q=>kB 2 rfl e2 (iG 3 rfl y e2 (pQ 4 rfl Q I λ_ R=>xFg (s:=λH w l=>(e.trans (Sm.mono (H.v w l) d.2.2))) 5 rfl R λ_ S=>rK (s:=λH w l=>(e.trans (Sm.mono (H.v w l) d.2.2))) 6 rfl F λ_ T=>kB 7 rfl e2 (iG 8 rfl y e2 (jE 9 rfl ?_)))));refine jk (λH=>xMb K L _ aA (H.a (j T)) (H.a (j G))) λ_=>qK (jE 10 rfl (jk (λH=>uI z M _ aA (H.a (j S)) (H.l 0 rfl)) (qK (zF [11,12] rfl (iT (nH (aI d ?_)))))));exact qT (rt rfl) lv
def mM (N:Nat) (c:A6) (d:A7) (e:List Int):Option Int:= xG (kL d.cons (λf=>dI N f (A6.mk c.size c.rels) e)) λh=>some h
theorem xKl {i j p} (r) (z:mM N i j p=some r) {d e f} (c) (hN:HN B c) (A:Bo B c (qS 2 xB) d i) (C:Bo B c (qS 2 xH) e j) (t:Bo B c (Sl 1 xF) f p):CG B c 142 #[d,e,f] (.fa (xL r) <| .st (xA r) λD=>D):=by
 unfold mM at z
 revert r
 refine vM func142 [(0,d),(1,e),(2,f)] hN λr=>?_;refine xI ?_;obtain⟨M,rfl,E,F⟩:=xB.o A;refine jX e2 (λ_=>?_);obtain⟨L,rfl,O,G⟩:=xH.o C;refine jX e2 λ_=>jX1 rfl (λH=>(H.a t).one) λ_=>xM 1 rfl (xZ e2 (jb 1 e3 (dJ e2 (jB λI K=>(jk (λH=>jG I K _ aA (H.a G) call209 (λP r h W x Q f0=>xGv r h W aA f0 ((xB.b (H.g 2 rfl).bk E (H.a F)).w x) ((c1S (H.g 0 rfl).bk (H.a t)).w x))) λy=>xS 1 rfl ?_)))));exact qT (rt rfl) ⟨y,lv⟩
def dD (N:Nat) (c:A6) (d:A7) (e:Int):Option (B0×Int):= xG (kS (A6.mk c.size c.rels) (A7.mk d.vars d.cons)) λi=>if (!i) then some ((B0.mk 0 ([]) ([]) ([]) ([])),1) else xG (dX c.size e) λj=>if (!j) then some ((B0.mk 0 ([]) ([]) ([]) ([])),2) else xG (bQ N c.size 1 e) λf=>xG (cA N (A6.mk c.size c.rels) (Op.mk f.arity f.table)) λp=>if (!p) then some ((B0.mk 0 ([]) ([]) ([]) ([])),4) else xG (qH ([e]) d.vars) λh=>xG (mM N (A6.mk c.size c.rels) (A7.mk d.vars d.cons) h) λt=>if (decide (0<=t)) then some ((B0.mk 0 ([]) ([]) ([]) ([])),6) else some ((B0.mk 0 h ([]) ([]) ([])),0)
theorem yT {A C d} (r) (F:dD N A C d=some r) {i j} (e) (hN:HN B e) (G:Bo B e (qS 2 xB) i A) (I:Bo B e (qS 2 xH) j C) (f:xL d):CG B e 92 #[i,j,xA d] (.v λz=>.fa (xL r.1.kind) <| .fa (xL r.2) <| .st (.tuple #[.agg #[xA r.1.kind,z,kW,kW,kW],xA r.2]) λD=>rl 1 xF 2 z r.1.values::D):=by
 unfold dD at F
 revert r
 refine vM func92 [(0,i),(1,j),(2,xA d)] hN λr=>?_;refine xI ?_;obtain⟨v2,rfl,c,p⟩:=xB.o G;refine jX e2 (λ_=>?_);obtain⟨a0,rfl,t,E⟩:=xH.o I;refine jX e2 λ_=>aK rfl λ_=>jo rfl (xRl (aG 2 e3 (aG 1 e3 (jB λK L=>?_))));refine jk (λH=>fM K L _ aA (xB.m c (H.a p)) (xH.m t (H.a E))) (xC 2 rfl (xT ?_ ?_))
 ·refine xI (oV e5 (zX e3 (bA 1 rfl ?_)));exact nJ (λH=>(H.nl 1 xF 2).s [0] rfl rfl) (dA 0 e2) (rt rfl) ⟨_,xO,zL,lv⟩
 refine xI (xZ e2 (jb 2 e3 (jo rfl (jB λM O=>(jk (λH=>tR M O _ aA c f) (xC 2 rfl (xT ?_ ?_)))))))
 ·refine xI (oV e5 (zX e3 (bA 1 rfl ?_)));exact nJ (λH=>(H.nl 1 xF 2).s [0] rfl rfl) (dA 0 e2) (rt rfl) ⟨_,xO,rH,lv⟩
 refine a_s (jB λP Q=>(jB λR S=>(js [2,0,1] rfl (cZ λ_ _ _ _ T x h _=>?_))));have y:=T.bk;refine jD (rY 0 rfl y e2 (kB 1 rfl e2 (iG 2 rfl y e2 (zF [3] rfl (jE 4 rfl (jk (λH=>xAf P Q _ aA c zL f) λ_ U=>qK (jE 5 rfl ?_)))))));refine jk (λH=>wO R S _ aA (xB.m c (H.a (x p))) (vU.m U (H.l 0 rfl))) (qK (zF [6,7] rfl (iT (eD (xT ?_ ?_)))))
 ·refine xI (oV e5 (js [1,0,2] rfl (zX e3 (bA 1 rfl (aI h ?_)))));exact nJ (λH=>(H.nl 1 xF 2).s [0] rfl rfl) (dA 1 e2) (rt rfl) ⟨_,xO,uC,lv⟩
 refine wB (jo rfl (lQ (λH=>Eo.int f) λ_=>xZ e2 (jb 3 e3 (jB λW X=>(jk (λH=>aV W X _ aA (H.l 0 rfl) t) λv3=>xK 1 rfl (jbAK y e2 (aG 4 e3 ?_)))))));refine jo rfl (jB λY Z=>?_);refine jk (λH=>xKl Y Z _ aA (xB.m c (H.a (x p))) (xH.m t (H.a (x E))) (H.l 0 rfl)) λa1=>xC 1 rfl (xT ?_ ?_)
 ·refine xI (oV e5 (js [3,0,1,2,4] rfl (zX e3 (oE 1 rfl (aI h ?_)))));exact nJ (λH=>(H.nl 1 xF 2).s [0] rfl rfl) (dA 1 e2) (rt rfl) ⟨_,xO,sS,lv⟩
 refine qR (jo rfl (jk (λH=>iV (H.l 0 rfl).one _ H.hN) (js [3,0,1,2,4] rfl ?_)));refine zX (hv:=(λH=>oc rfl (oc (H.l 1 rfl).one (oc rfl (oc rfl (oc rfl on)))))) e3 (xS 1 rfl (aI h ?_));exact nJ (λH=>H.s [2] rfl rfl) (dA 1 e2) (rt rfl) ⟨_,xO,xO,lv⟩
def pW (c:Int) (d:Op):Option Bool:= oZ (σ:=Bool) (xG (mD c) λf=>if f then  xG (gY d.arity) λe=>if e then  xG (vA c d.arity) λh=>xG (aL c d.table h) λi=>some (.nx i) else  some (.nx false) else  some (.nx false)) λj=>some j
theorem xLp {c h} (r) (t:pW c h=some r) {e} (f) (hN:HN B f) (d:xL c) (x:Bo B f (qS 2 vU) e h):CG B f 212 #[xA c,e] (.st (.bool r) λD=>D):=by
 unfold pW at t
 revert r
 refine vM func212 [(0,xA c),(1,e)] hN λr=>?_;refine xI ?_;obtain⟨L,rfl,i,y⟩:=vU.o x;refine jX e2 λ_=>xW 1 rfl (qZ (λz=>.st [(4,.bool z)] []) ?_ (λ_=>?_))
 ·
  refine jQ (zA 1 rfl (jB λA C=>(jqk (λH=>wN A C _ aA d) (zA 1 rfl (fD 7 (λ_=>?_) (λ_=>?_))))))
  ·
   refine sW e2 (jqb 0 e3 (jB λj E=>(jqk (λH=>yF j E _ aA i) (zA 2 rfl (fD 12 (λ_=>?_) (λ_=>?_))))))
   ·refine zA 1 rfl (sW e2 (jqb 0 e3 (zA 1 rfl (sW e2 (jqb 0 e3 (jB λF G=>(xRo (λH=>zU F G _ aA d i) λp=>jB λI K=>(jqk (λH=>mZ I K _ aA d (H.a y) p) (zA 2 rfl ?_)))))))));refine nD (eD (js [] rfl ?_));exact jf ls
   refine zA 10 rfl (nD (eD (js [] rfl ?_)));exact jf ls
  refine zA 15 rfl (nD (eD (js [] rfl ?_)));exact jf ls
 refine nH ?_;exact qT (rt rfl) lv
def eJ (N:Nat) (c:A6) (e:A7) (d:Op) (h:Int):Option Int:= oZ (σ:=Bool) (xG (kS (A6.mk c.size c.rels) (A7.mk e.vars e.cons)) λf=>if (!f) then  some (.nx true) else  xG (pW c.size (Op.mk d.arity d.table)) λi=>some (.nx (!i))) λj=>if j then some 1 else oZ (σ:=Bool) (xG (zN N c.size (Op.mk d.arity d.table) h) λp=>if (!p) then  some (.nx true) else  xG (cA N (A6.mk c.size c.rels) (Op.mk d.arity d.table)) λt=>some (.nx (!t))) λx=>if x then some 4 else some 0
theorem tZ {f y h c} (r) (G:eJ N f y h c=some r) {i j p} (d) (hN:HN B d) (I:Bo B d (qS 2 xB) i f) (K:Bo B d (qS 2 xH) j y) (L:Bo B d (qS 2 vU) p h) (E:xL c):CG B d 144 #[i,j,p,xA c] (.fa (xL r) <| .st (xA r) λD=>D):=by
 unfold eJ at G
 revert r
 refine vM func144 [(0,i),(1,j),(2,p),(3,xA c)] hN λr=>?_;refine xI ?_;obtain⟨M,rfl,e,z⟩:=xB.o I;refine jX e2 (λA=>?_);obtain⟨a1,rfl,O,P⟩:=xH.o K;refine jX e2 (λ_=>?_);obtain⟨Q,rfl,t,x⟩:=vU.o L;refine jX e2 λC=>jo rfl (oEf ?_);refine qZ (λR=>.st [(3,xA c),(4,oK A),(6,oK C),(9,.bool R)] [bx C [xA h.arity,Q] 85,bx A [xA f.size,M] 32]) ?_ (λ_=>?_)
 ·
  refine lP (aG 2 e3 (aG 1 e3 (jB λF S=>?_)));refine jk (λH=>fM F S _ aA (xB.m e (H.a z)) (xH.m O (H.a P))) (jA 2 rfl (fD 14 (λ_=>?_) (λ_=>?_)))
  ·refine xC 7 rfl (js [0,2] rfl ?_);exact jf ls
  refine xZ e2 (jb 2 e3 (aG 0 e3 (jB λT U=>?_)));refine jk (λH=>xLp T U _ aA e (vU.m t (H.a x))) (xC 3 rfl (js [0,2] rfl ?_));exact jf ls
 refine eD (xT ?_ ?_)
 ·refine xI (bA 1 rfl ?_);exact qT (rt rfl) ⟨zL,lv⟩
 refine a_s (qZ (λW=>.st [(21,.bool W)] []) ?_ (λ_=>?_))
 ·
  refine lP (xZ e2 (jb 1 e3 (aG 0 e3 (jo rfl (jB λX Y=>?_)))));refine jk (λH=>xDc X Y _ aA e (vU.m t (H.a x)) E) (jA 2 rfl (fD 28 (λ_=>?_) (λ_=>?_)))
  ·refine xC 6 rfl (js [] rfl ?_);exact jf ls
  refine aG 1 e3 (aG 0 e3 (jB λZ c4=>?_));refine jk (λH=>wO Z c4 _ aA (xB.m e (H.a z)) (vU.m t (H.a x))) (xC 3 rfl (js [] rfl ?_));exact jf ls
 refine eD (xT ?_ ?_)
 ·refine xI (bA 1 rfl ?_);exact qT (rt rfl) ⟨uC,lv⟩
 refine wB (xS 1 rfl ?_);exact qT (rt rfl) ⟨xO,lv⟩
def pL (c d:Int):Option (List Int):= oZ (σ:=List Int) (qM (λe f=>xG (ck (c+(e:Int))) λh=>xG (ap f ([h])) λi=>some (.go i)) d.toNat 0 []) λj=>some j
theorem xBz {d e} (r) (z:pL d e=some r) (p) (hN:HN B p) (F:xL d) (i:xL e):CG B p 213 #[xA d,xA e] (.v λj=>.st (j) λD=>rl 1 xF 2 j r::D):=by
 unfold pL at z
 revert r
 refine vM func213 [(0,xA d),(1,xA e)] hN λr=>?_;refine xI (xM 1 rfl (jR0 xF λG=>xK 1 rfl (xC 2 rfl (qZ (λA=>.v λh=>.st [(5,h)] [rl 1 xF 2 h A]) ?_ (λ_ h=>?_)))))
 ·
  refine zK ?_;refine jc (λt x=>.v λf=>.st [(9,xA (t:Int)),(0,xA d),(5,f),(8,xA e)] [rl 1 xF 2 f x]) ⟨_,ls⟩ (λ_ x _ c f=>?_) (λ_ t _ c _=>?_)
  ·have C:=vD c;refine xI (xW 1 rfl (kJ C (xN ?_)));exact jf ⟨_,ls⟩
  refine xI (xW 1 rfl (kO (qP c) (xY ?_)));have j2:=dT c i;refine qE (jA 2 rfl (lT (jA 3 rfl (jB λI y=>(bN y (lQ (λH=>Eo.int (kA y)) λ_=>jB λK E=>(js [1,0] rfl (jPL E λL=>jo rfl ?_))))))));refine dQ (xU (vY c i) (xC 1 rfl ?_));exact jg ⟨_,ls⟩
 refine oO (xS 2 rfl ?_);exact j1 (rt rfl) ⟨_,lv⟩
def eL (c:A6) (d:A7):Option (List (List Int)):= oZ (σ:=List (List Int)) (qM (λj e=>xG (pL 0 c.size) λf=>xG (ap e ([f])) λh=>some (.go h)) d.vars.toNat 0 []) λi=>some i
theorem uQ {e f} (r) (C:eL e f=some r) {h i} (d) (hN:HN B d) (E:Bo B d (qS 2 xB) h e) (F:Bo B d (qS 2 xH) i f):CG B d 145 #[h,i] (.v λt=>.st (t) λD=>rl 1 (kP 1 xF) 58 t r::D):=by
 unfold eL at C
 revert r
 refine vM func145 [(0,h),(1,i)] hN λr=>?_;refine xI ?_;obtain⟨G,rfl,I,Q⟩:=xB.o E;refine jX e2 (λx=>?_);obtain⟨P,rfl,y,R⟩:=xH.o F;refine jX e2 λ_=>xM 1 rfl (jR0 (kP 1 xF) λS=>xK 1 rfl (xZ e2 (jb 1 e3 (xC 1 rfl (qZ (λK=>.v λj=>.st [(5,j)] [rl 1 (kP 1 xF) 58 j K]) ?_ (λ_ j=>?_))))))
 ·
  refine zK (js [0,2] rfl ?_);refine jc (λz A=>.v λp=>.st [(9,xA (z:Int)),(2,oK x),(5,p),(8,xA f.vars)] [rl 1 (kP 1 xF) 58 p A,bx x [xA e.size,G] 32]) ⟨_,ls⟩ (λ_ A _ c p=>?_) (λ_ z _ c _=>?_)
  ·have L:=vD c;refine xI (xW 1 rfl (kJ L (xN (js [0] rfl ?_))));exact jf ⟨_,ls⟩
  refine xI (xW 1 rfl (kO (qP c) (xY ?_)));have j2:=dT c y;refine xAp (jo rfl (xZ e2 (jb 1 e3 (jB λM N=>(jk (λH=>xBz M N _ aA xO I) λ_=>jh (λH=>H.os) (uL (λH=>El.sl) λ_=>jB λT O=>(js [1,0,2] rfl (jPL O (λU=>?_)))))))));refine kZ 1 rfl (xU (vY c y) (xC 1 rfl ?_));exact jg ⟨_,ls⟩
 refine oO (xS 2 rfl ?_);exact j1 (rt rfl) ⟨_,lv⟩
def iP:Option Bool:= some false
theorem xPq (r) (d:iP=some r) (c) (hN:HN B c):CG B c 147 #[] (.st (.bool r) λD=>D):=by
 unfold iP at d
 revert r
 refine vM func147 [] hN λr=>?_;refine xI (xM 1 rfl (xS 1 rfl ?_));exact qT (rt rfl) lv
def fK (c:Con) (d:List Int):Option Bool:= oZ (σ:=Unit) (oM (λe (h:Int) s=>match s with | _=>oZ (σ:=Unit) (qM (λf s=>match s with | _=>oZ (σ:=Bool) (xG (ix c.scope (f:Int)) λi=>if (i==h) then  xG (ix d (f:Int)) λj=>xG (ix d (e:Int)) λp=>some (.nx (j != p)) else  some (.nx false)) λt=>if t then some (.ret (.ret false)) else some (.go ())) (e:Int).toNat 0 ()) λ_=>some (.go ())) c.scope 0 ()) λ_=>some true
theorem wG {c z} (r) (F:fK c z=some r) {t h} (j) (hN:HN B j) (G:Bo B j (qS 2 vS) t c) (A:Bo B j (Sl 1 xF) h z):CG B j 250 #[t,h] (.st (.bool r) λD=>D):=by
 unfold fK at F
 revert r
 refine vM func250 [(0,t),(1,h)] hN λr=>?_;refine xI ?_;obtain⟨e,rfl,U,x⟩:=vS.o G;refine jX e2 λf=>xK 1 rfl (xZ e2 (jb 0 e3 (jL x λC=>xC 1 rfl (qZ (λ_=>.st [] []) ?_ (λ_=>?_)))))
 ·
  refine zK ?_;refine jl (λd _=>.st [(11,xA (d:Int)),(1,h),(2,oK f),(9,e),(10,xA (c.scope.length:Int))] [bx f [xA c.rel,e] 109]) ls (λ_ _ _ H=>?_) (λd E _ p I=>?_)
  ·have K:=oU H;refine xI (xW 1 rfl (kJ K (xN (js [] rfl ?_))));exact jf ls
  refine xI (xW 1 rfl (kO (xX p) (xY ?_)));have j1:=dS (Ah p) C;refine qE (jo rfl (jI x I λ_ L=>aP L λ_=>xM 2 rfl (xC 2 rfl ?_)));refine qZ (λ_=>.st [(1,h),(2,oK f),(9,e),(10,xA (c.scope.length:Int)),(11,xA (d:Int))] [bx f [xA c.rel,e] 109]) ?_ (λ_=>?_)
  ·
   refine zK ?_;refine jc (λy _=>.st [(17,xA (y:Int)),(1,h),(2,oK f),(5,xA (d:Int)),(6,xA E),(9,e),(10,xA (c.scope.length:Int)),(11,xA (d:Int)),(16,xA (d:Int))] [bx f [xA c.rel,e] 109]) ls (λ_ _ _ i=>?_) (λ_ y _ i=>?_)
   ·have M:=vD i;refine xI (xW 1 rfl (kJ M (xN ?_)));exact jf ls
   refine xI (xW 1 rfl (kO (qP i) (xY ?_)));have j2:=dT i j1;refine qE (xW 2 rfl ?_);refine qZ (λN=>.st [(1,h),(2,oK f),(5,xA (d:Int)),(6,xA E),(9,e),(10,xA (c.scope.length:Int)),(11,xA (d:Int)),(16,xA (d:Int)),(17,xA (y:Int)),(37,.bool N)] [bx f [xA c.rel,e] 109]) ?_ (λ_=>?_)
   ·
    refine jQ (sW e2 (jqb 0 e3 (zA 1 rfl (jB λW O=>(lM x O λ_ P=>kI P λ_=>zA 3 rfl (fD 27 (λ_=>?_) (λ_=>?_)))))))
    ·refine zA 2 rfl (jB λX Q=>(lM A Q λ_ R=>kI R λ_=>zA 2 rfl (jB λY S=>(lM A S λ_ T=>kI T λ_=>zA 2 rfl (nD (eD ?_))))));exact jf ls
    refine zA 10 rfl (nD (eD ?_));exact jf ls
   refine eD (xT ?_ ?_)
   ·refine xI (oY 1 rfl (fZ (zR (fH (xFi (fZ (zR (fH (lD ?_)))))))));exact qT (rt rfl) lv
   refine qJ (xU (vY i j1) (xC 1 rfl ?_));exact jg ls
  refine aH (xU (qG p C) (xC 1 rfl ?_));exact jg ls
 refine oO (xS 1 rfl ?_);exact qT (rt rfl) lv
def fO (c:List Int) (e f:Int) (d:Con) (h:(List (List Int))):Option Bool:= oZ (σ:=Bool) (xG (ix c e) λi=>if (i != f) then  some (.nx true) else  xG (fK d c) λj=>some (.nx (!j))) λp=>if p then some false else oZ (σ:=Unit) (oM (λt (x:Int) s=>match s with | _=>xG (ix h x) λy=>xG (ix c (t:Int)) λz=>xG (vJ y z) λA=>if (!A) then some (.ret false) else some (.go ())) d.scope 0 ()) λ_=>some true
theorem xCp {x y z i A} (r) (G:fO x y z i A=some r) {d j p f e} (c) (hN:HN B c) (t:Bo B c (Sl 1 xF) d x) (I:Bo B c (Pt 1 xF) j y) (K:Bo B c (Pt 1 xF) p z) (A3:Bo B c (Pt 2 vS) f i) (L:Bo B c (Pt 1 (kP 1 (kP 1 xF))) e A):CG B c 249 #[d,j,p,f,e] (.st (.bool r) λD=>D):=by
 unfold fO at G
 revert r
 refine vM func249 [(0,d),(1,j),(2,p),(3,f),(4,e)] hN λr=>?_;refine xI (jo rfl (nE (qZ (λM=>.st [(0,d),(3,f),(4,e),(20,.bool M)] []) ?_ (λ_=>?_))))
 ·
  refine jQ (zA 1 rfl (kI I λ_=>jB λz1 N=>(lM t N λ_ O=>kI O λ_=>kI K λ_=>zA 2 rfl (fD 15 (λ_=>?_) (λ_=>?_)))))
  ·refine zA 5 rfl (nD (eD ?_));exact jf ls
  refine xJu A3 λ_ P=>zA 1 rfl (jB λQ R=>(jqk (λH=>wG Q R _ aA (H.a P) (H.a t)) (zA 2 rfl (nD (eD ?_)))));exact jf ls
 refine eD (xT ?_ ?_)
 ·refine xI (oE 1 rfl ?_);exact qT (rt rfl) lv
 refine vT (aF A3 vS.f1 λ_ S=>aR S λT C=>jL C λE=>xC 1 rfl (qZ (λ_=>.st [] []) ?_ (λ_=>?_)))
 ·
  refine zK (jl (λF _=>.st [(24,xA (F:Int)),(0,d),(4,e),(22,T),(23,xA (i.scope.length:Int))] []) ls (λ_ _ _ U=>?_) (λF _ _ h W=>?_))
  ·have X:=oU U;refine xI (xW 1 rfl (kJ X (xN ?_)));exact jf ls
  refine xI (xW 1 rfl (kO (xX h) (xY ?_)));have j1:=dS (Ah h) E;refine qE (jo rfl (jI C W λ_ Y=>aP Y λ_=>xW 2 rfl (jQ (eZ L λ_ Z=>zA 1 rfl (jB λz3 c3=>(lM Z c3 (λ_ h7=>?_)))))));refine eZ h7 λ_ h8=>zA 2 rfl (jB λz4 c4=>(lM t c4 λ_ h9=>kI h9 λi2=>jB λz5 c5=>(jqk (λH=>cJ z5 c5 _ aA (H.a h8) i2) (zA 1 rfl (nD (eD (xT ?_ ?_)))))))
  ·refine xI (oY 1 rfl (fZ (zR (fH (lD ?_)))));exact qT (rt rfl) lv
  refine qJ (xU (qG h E) (xC 1 rfl ?_));exact jg ls
 refine oO (xS 1 rfl ?_);exact qT (rt rfl) lv
def kT (c:List (List Int)) (d:(List Int)->Option Bool):Option Int:= oZ (σ:=Unit) (oM (λe (f:(List Int)) s=>match s with | _=>xG (d f) λh=>if h then some (.ret ((e:Int))) else some (.go ())) c 0 ()) λ_=>some ((-1))
theorem nI {i j} (r) (F:kT i j=some r) {f c e} (d) (hN:HN B d) (p:Bo B d (Sl 1 (kP 1 xF)) f i) (A:∀ args w,(callFunc c args).run prog w= .ok (.enter c args) w) (C:∀ (t:List Int) (r:Bool),j t=some r->∀ W,Below d.heap.size d W->∀ (x:Vl),Bo (All W) W (Sl 1 xF) x t->Calls prog c ([x]++e:List Vl).toArray W (Gt (All W) W [] (.st (.bool r) λD=>D))):CG B d 217 #[f,.func (.func c) #[] e.toArray] (.fa (xL r) <| .st (xA r) λD=>D):=by
 unfold kT at F
 revert r
 refine vM func217 [(0,f),(1,.func (.func c) #[] e.toArray)] hN λr=>?_;refine xI (xK 1 rfl (jo rfl (jL p λy=>xC 1 rfl (qZ (λ_=>.st [] []) ?_ (λ_=>?_)))))
 ·
  refine zK (jl (λz _=>.st [(8,xA (z:Int)),(0,f),(1,.func (.func c) #[] e.toArray),(7,xA (i.length:Int))] []) ls (λ_ _ _ G=>?_) (λz _ _ h I=>?_))
  ·have K:=oU G;refine xI (xW 1 rfl (kJ K (xN ?_)));exact jf ls
  refine xI (xW 1 rfl (kO (xX h) (xY (qE (xM 2 rfl (jA 3 rfl (jI p I λ_ E=>aR E (λ_ L=>?_))))))));refine jB λM N=>?_;refine jkV A e2 (λH=>C _ M N _ H.bl _ (H.a L)) (kD (xT ?_ ?_))
  ·refine xI (oY 2 rfl (fZ (zR (fH (lD ?_)))));exact qT (rt rfl) ⟨(dS (Ah h) y),lv⟩
  refine qJ (xU (qG h y) (xC 1 rfl ?_));exact jg ls
 refine oO (xS 1 rfl ?_);exact qT (rt rfl) ⟨bC,lv⟩
def oJ (c:List (List Int)) (d:(List Int)->Option Bool):Option Bool:= xG (kT c d) λe=>some ((decide (0<=e)))
theorem zQ {j p} (r) (z:oJ j p=some r) {i c f} (d) (hN:HN B d) (A:Bo B d (Sl 1 (kP 1 xF)) i j) (x:∀ args w,(callFunc c args).run prog w= .ok (.enter c args) w) (y:∀ (e:List Int) (r:Bool),p e=some r->∀ W,Below d.heap.size d W->∀ (t:Vl),Bo (All W) W (Sl 1 xF) t e->Calls prog c ([t]++f:List Vl).toArray W (Gt (All W) W [] (.st (.bool r) λD=>D))):CG B d 148 #[i,.func (.func c) #[] f.toArray] (.st (.bool r) λD=>D):=by
 unfold oJ at z
 revert r
 refine vM func148 [(0,i),(1,.func (.func c) #[] f.toArray)] hN λr=>?_;refine xI (xM 1 rfl (jA 2 rfl (jB λC E=>(jk (λH=>nI C E _ aA (H.a A) x (λe r h W F=>y e r h W (H.bl.trans (F.mono H.fr.size)))) λG=>xS 2 rfl ?_))));exact qT (rt rfl) lv
def cB (d:A6) (c:Con) (e:List (List Int)) (f h:Int):Option Bool:= xG (ix d.rels c.rel) λi=>xG (oJ i.tuples (λj=>fO j f h (Con.mk c.rel c.scope) e)) λp=>some p
theorem xFy {t x y d e} (r) (E:cB t x y d e=some r) {i j p} (c) (hN:HN B c) (F:Bo B c (qS 2 xB) i t) (G:Bo B c (qS 2 vS) j x) (z:Bo B c (Sl 1 (kP 1 xF)) p y) (A:xL d) (C:xL e):CG B c 215 #[i,j,p,xA d,xA e] (.st (.bool r) λD=>D):=by
 unfold cB at E
 revert r
 refine vM func215 [(0,i),(1,j),(2,p),(3,xA d),(4,xA e)] hN λr=>?_;refine xI ?_;obtain⟨T,rfl,U,I⟩:=xB.o F;refine jX e2 (λ_=>?_);obtain⟨S,rfl,K,L⟩:=vS.o G;refine jX e2 λ_=>jX1 rfl (λH=>(H.a z).one) λ_=>jX e2 λ_=>jX e2 λ_=>xM 1 rfl (xZ e2 (jb 4 e3 (xZ e2 (jb 3 e3 (jB λX M=>?_)))));refine jI I M λ_ N=>aF N oQ.f1 λ_ O=>aR O λ_ P=>dJ e2 (jB λQ R=>(jk (λH=>zQ Q R _ aA (H.a P) call249 (λY r h W f Z f0=>xCp r h W aA f0 ((c1I (H.g 1 rfl).bk A).w f) ((c1I (H.g 0 rfl).bk C).w f) ((vS.b (H.g 3 rfl).bk K (H.a L)).w f) ((c1S (H.g 2 rfl).bk (H.a z)).w f))) (xS 1 rfl ?_)));exact qT (rt rfl) lv
def rC (c d:Int):Option Bool:= some ((c==d))
theorem xGz {c f} (r) (h:rC c f=some r) {d} (e) (hN:HN B e) (j:xL c) (i:Bo B e (Pt 1 xF) d f):CG B e 252 #[xA c,d] (.st (.bool r) λD=>D):=by
 unfold rC at h
 revert r
 refine vM func252 [(0,xA c),(1,d)] hN λr=>?_;refine xI (xM 1 rfl (jo rfl (aP i λ_=>xS 2 rfl ?_)));exact qT (rt rfl) lv
def kC (N:Nat) (i:List Int) (p:Int->Option Bool):Option (List Int):= xG (qA i p) λj=>if (j==(-1)) then some i else xG (ck (j+1)) λy=>oZ (σ:=Int×Int×(List Int)) (mL (λs=>match s with | (d,e,c)=>if (decide (e<(c.length:Int))) then xG (ix c e) λt=>xG (p t) λz=>if (!z) then xG (ix c d) λD=>xG (ck (d+1)) λA=>xG (ck (e+1)) λB=>some (.go (A,B,(c.set (d).toNat t))) else xG (ck (e+1)) λC=>some (.go (d,C,c)) else some (.brk (d,e,c))) N (j,y,i)) λ(f,E,h)=>xG (sl h f (h.length:Int)) λF=>xG (sl (h.take (f).toNat++List.replicate (h.length - (f).toNat) 0) 0 f) λx=>some x
theorem pP {E:List Int} {F:Int->Option Bool} (r:(List Int)) (hR:kC N E F=some r) {j:Vl} {c:FuncId} {f:List Vl} {G:List Nat} (d:Wd) (hN:HN B d) (S0:Sep G B d d [rl 1 xF 2 j E]) (z:∀ args w,(callFunc c args).run prog w= .ok (.enter c args) w) (A:∀ (e:Int) (r:Bool),F e=some r->∀ W,Sm B d W->xL e->Calls prog c ([xA e]++f:List Vl).toArray W (Gt (All W) W [] (.st (.bool r) λD=>D))):Calls prog 251 #[j,.func (.func c) #[] f.toArray] d (Gt B d G (.v λC=>.st (C) λD=>rl 1 xF 2 C r::D)):=by
 unfold kC at hR
 revert r
 refine jin func251 [(0,j),(1,.func (.func c) #[] f.toArray)] S0 λr=>?_;refine xI (xM 1 rfl (jA 2 rfl (jB λz1 c1=>(jk (λH=>bW z1 c1 _ aA (H.l 0 rfl) z (λe r h W l1=>A e r h W (H.go l1).sm)) λY=>xK 1 rfl (xC 2 rfl (xT ?_ ?_))))))
 ·refine xI (oE 2 rfl ?_);exact j1 (rt rfl) ⟨_,lv⟩
 refine vT (jo rfl (jB λz2 I=>(bN I (xC 1 rfl (qZ (λ(p,K,L)=>.v λM=>.fa (xL p) <| .fa (xL K) <| .st [(0,M),(5,xA p)] [rl 1 xF 2 M L]) ?_ (λ(p,K,L) _ _ _=>?_))))))
 ·
  refine zK ?_;refine jw (λ(t,x,O)=>.v λy=>.fa (xL t) <| .fa (xL x) <| .st [(0,y),(1,.func (.func c) #[] f.toArray),(5,xA t),(6,xA x)] [rl 1 xF 2 y O]) ⟨_,Y,(kA I),ls⟩ (λ_ (t,x,O) y P i2=>?_);refine xR (jA 2 rfl (jLc (λH=>H.l 0 rfl) λ_=>xC 1 rfl (xT ?_ ?_)))
  ·
   refine nK (jA 2 rfl (jB λz3 c3=>(cZ λ_ _ _ Z g2 _ i _=>(jI g2.ld c3 λ_ h1=>aP h1 λQ=>xM 1 rfl (jA 2 rfl (jB λz4 c4=>?_))))));refine jkV z e2 (λH=>A _ z4 c4 _ (Z.trans (Sm.mono H.sm i.2.2)) Q) (xC 1 rfl (xT ?_ ?_))
   ·refine xI (jA 3 rfl (jB λz5 R=>(aI i (jRl 0 R λ_ a0=>jh (λH=>H.lw) (jS a0 (dL R) (λH=>Eo.int Q) rfl (jh (λH=>H.tl) (lT (jo rfl (jB λz6 S=>?_)))))))));refine bN S (kZ 1 rfl (jo rfl (jB λz7 T=>(bN T (xC 1 rfl ?_)))));exact jg ⟨_,(kA S),(kA T),ls⟩
   refine qJ (jo rfl (jB λz8 U=>(bN U (xC 1 rfl (aI i ?_)))));exact jg ⟨_,P,(kA U),ls⟩
  refine nS (jbk (wJ ?_));exact jf ⟨_,P,i2,ls⟩
 refine oO (jA 2 rfl (jB λz9 c9=>(jRtl 0 c9 λ_ X=>jRcl (zeroValue2) X (qW (jA 2 rfl (jB λae a1=>(jh (λH=>H.lw) (jT a1 λv3=>jh (λH=>H.tl) ?_))))))));refine xS 1 rfl ?_;exact j1 (rt rfl) ⟨_,lv⟩
def fX (N:Nat) (c:List Int) (d:Int):Option (List Int):= xG (oH c) λe=>xG (kC N e (λf=>rC f d)) λh=>some h
theorem xJj {i c} (r) (t:fX N i c=some r) {d} (e) (hN:HN B e) (x:Bo B e (Sl 1 xF) d i) (j:xL c):CG B e 216 #[d,xA c] (.v λf=>.st (f) λD=>rl 1 xF 2 f r::D):=by
 unfold fX at t
 revert r
 refine vM func216 [(0,d),(1,xA c)] hN λr=>?_;refine xI (jX e2 λ_=>xM 1 rfl (jo rfl (jB λy z=>(jk (λH=>qO y z _ aA (H.a x)) λK=>dJ e2 (js [1,0] rfl (cZ λL M O _ A _ p _=>?_))))));have C:=A.bk;refine jB λE F=>(jko 1 (λG H=>pP E F _ H.hN G call252 (λP r h W I f0=>xGz r h W aA f0 (Bo.all (Bo.to (c1I (C.to H.sm) j) I)))) λQ=>xS 1 rfl (aI p (js [1] rfl ?_)));exact j1 (rt rfl) ⟨_,lv⟩
def gG (N:Nat) (j:A6) (O:A7) (P:List (List Int)) (Q:List (List Int)->Option Bool):Option ((List B3)×(List (List Int))):= oZ (σ:=(List B3)×Bool×(List (List Int))) (mL (λs=>match s with | (p,t,x)=>if t then oZ (σ:=(List B3)×Bool×(List (List Int))) (oM (λR (e:Con) s=>match s with | (S,T,U)=>oZ (σ:=(List B3)×Bool×(List (List Int))) (oM (λW (d:Int) s=>match s with | (X,Y,y)=>xG (ix y d) λZ=>xG (oH Z) λz2=>oZ (σ:=(List B3)×Bool×(List (List Int))) (oM (λk3 (f:Int) s=>match s with | (i,A,c)=>xG (cB (A6.mk j.size j.rels) (Con.mk e.rel e.scope) c (W:Int) f) λz3=>if z3 then some (.go (i,A,c)) else xG (ix c d) λz4=>xG (fX N z4 f) λh=>xG (ap i ([(B3.mk d f (R:Int))])) λz=>xG (Q (c.set (d).toNat h)) λz7=>if z7 then some (.ret (.ret (.ret (.ret (z,(c.set (d).toNat h)))))) else some (.go (z,true,(c.set (d).toNat h)))) z2 0 (X,Y,y)) λ(B,C,D)=>some (.go (B,C,D))) e.scope 0 (S,T,U)) λ(E,F,G)=>some (.go (E,F,G))) O.cons 0 (p,false,x)) λ(H,I,K)=>some (.go (H,I,K)) else some (.brk (p,t,x))) N ([],true,P)) λ(L,a4,M)=>some (L,M)
theorem uW {j:A6} {d:A7} {x2:List (List Int)} (r:(List B3)×(List (List Int))) (hR:gG N j d x2 (λ_=>iP)=some r) {v0:Vl} {v1:Vl} {c:Vl} {X0:List Nat} (t:Wd) (hN:HN B t) (S0:Sep X0 B t t [rw N0 1 (kP 1 xF) 58 c x2]) (A0:Bo B t (qS 2 xB) v0 j) (A1:Bo B t (qS 2 xH) v1 d):Calls prog 146 #[v0,v1,c,.func (.func 147) #[] #[]] t (Gt B t X0 (.v λa9=>.st (a9) λD=>rl 3 oD 225 a9 r.1::rw N0 1 (kP 1 xF) 58 c r.2::D)):=by
 unfold gG at hR
 revert r
 refine jin func146 [(0,v0),(1,v1),(2,c),(3,.func (.func 147) #[] #[])] S0 λr=>?_;refine xI ?_;obtain⟨x,rfl,i1,h1⟩:=xB.o A0;refine jX e2 (λf=>?_);obtain⟨i,rfl,i2,h2⟩:=xH.o A1;refine jX e2 λh=>xM 1 rfl (jR0 oD λv4=>xK 1 rfl (xC 1 rfl (qZ (λ(s1,s2,s3)=>.v λv5=>.st [(2,c),(9,v5)] [rl 3 oD 225 v5 s1,rw N0 1 (kP 1 xF) 58 c s3]) ?_ (λ(s1,s2,s3) v5=>?_))))
 ·
  refine zK ?_;refine jw (λ(s4,s5,s6)=>.v λv6=>.st [(2,c),(3,.func (.func 147) #[] #[]),(4,oK f),(5,oK h),(9,v6),(10,.bool s5)] [rl 3 oD 225 v6 s4,bx h [xA d.vars,i] 67,bx f [xA j.size,x] 32,rw N0 1 (kP 1 xF) 58 c s6]) ⟨_,ls⟩ (λ_ (s4,s5,s6) v6=>?_);refine xR (xC 1 rfl (xT ?_ ?_))
  ·
   refine xCj (xM 1 rfl (xZ e2 (jb 1 e3 (jL h2 λi3=>xC 1 rfl ?_))));refine qZ (λ(s7,s8,s9)=>.v λv7=>.st [(2,c),(3,.func (.func 147) #[] #[]),(4,oK f),(5,oK h),(9,v7),(10,.bool s8)] [rl 3 oD 225 v7 s7,bx h [xA d.vars,i] 67,bx f [xA j.size,x] 32,rw N0 1 (kP 1 xF) 58 c s9]) ?_ (λ(s7,s8,s9) v7=>?_)
   ·
    refine zK ?_;refine jl (λp (K,L,M)=>.v λG=>.st [(22,xA (p:Int)),(2,c),(3,.func (.func 147) #[] #[]),(4,oK f),(5,oK h),(9,G),(10,.bool L),(20,i),(21,xA (d.cons.length:Int))] [rl 3 oD 225 G K,bx h [xA d.vars,i] 67,bx f [xA j.size,x] 32,rw N0 1 (kP 1 xF) 58 c M]) ⟨_,ls⟩ (λ_ (K,L,M) _ q1 G=>?_) (λp y (K,L,M) O y1 G=>?_)
    ·have l1:=oU q1;refine xI (xW 1 rfl (kJ l1 (xN ?_)));exact jf ⟨_,ls⟩
    refine xI (xW 1 rfl (kO (xX O) (xY (qE (jo rfl (jI h2 y1 λ_ h3=>jlA h3 λ_ h4=>aK rfl λz=>jo rfl ?_))))));obtain⟨A,rfl,i4,I⟩:=vS.o h4;refine zX (hv:=(λH=>oc rfl (oc (H.a I).one on))) e3 (qW (xZ e2 (jb 0 e3 (jL I λi5=>xC 1 rfl ?_))));refine qZ (λ(aa,ab,ac)=>.v λP=>.st [(2,c),(3,.func (.func 147) #[] #[]),(4,oK f),(5,oK h),(9,P),(10,.bool ab),(20,i),(21,xA (d.cons.length:Int)),(22,xA (p:Int))] [rl 3 oD 225 P aa,bx h [xA d.vars,i] 67,bx f [xA j.size,x] 32,rw N0 1 (kP 1 xF) 58 c ac]) ?_ (λ(aa,ab,ac) P=>?_)
    ·
     refine zK ?_;refine jl (λC (Q,R,S)=>.v λE=>.st [(30,xA (C:Int)),(2,c),(3,.func (.func 147) #[] #[]),(4,oK f),(5,oK h),(9,E),(10,.bool R),(11,xA (p:Int)),(12,oK z),(20,i),(21,xA (d.cons.length:Int)),(22,xA (p:Int)),(28,A),(29,xA (y.scope.length:Int))] [bx z [xA y.rel,A] 109,rl 3 oD 225 E Q,bx h [xA d.vars,i] 67,bx f [xA j.size,x] 32,rw N0 1 (kP 1 xF) 58 c S]) ⟨_,ls⟩ (λ_ (Q,R,S) _ q2 E=>?_) (λC x4 (Q,R,S) T y2 E=>?_)
     ·have l2:=oU q2;refine xI (xW 1 rfl (kJ l2 (xN (js [1,2,3,4] rfl ?_))));exact jf ⟨_,ls⟩
     refine xI (xW 1 rfl (kO (xX T) (xY (qE (jo rfl (jI I y2 λ_ h6=>aP h6 λi6=>xM 2 rfl ?_))))));refine jA 2 rfl (jB λz1 c1=>(js [4,0,1,2,3] rfl (cZ λ_ _ _ _ g1 _ b1 _=>(jI g1.rd c1 λ_ h7=>aR h7 λ_ h8=>jB λz2 c2=>(jk (λH=>qO z2 c2 _ aA (H.a h8)) λad=>jLc (λH=>H.l 0 rfl) λi7=>xC 1 rfl ?_)))));refine aI b1 ?_;refine qZ (λ(ae,af,ag)=>.v λU=>.st [(2,c),(3,.func (.func 147) #[] #[]),(4,oK f),(5,oK h),(9,U),(10,.bool af),(11,xA (p:Int)),(12,oK z),(20,i),(21,xA (d.cons.length:Int)),(22,xA (p:Int)),(28,A),(29,xA (y.scope.length:Int)),(30,xA (C:Int))] [rw N0 1 (kP 1 xF) 58 c ag,bx z [xA y.rel,A] 109,rl 3 oD 225 U ae,bx h [xA d.vars,i] 67,bx f [xA j.size,x] 32]) ?_ (λ(ae,af,ag) U=>?_)
     ·
      refine zK ?_;refine jl (λk3 (W,X,Y)=>.v λF=>.st [(41,xA (k3:Int)),(2,c),(3,.func (.func 147) #[] #[]),(4,oK f),(5,oK h),(9,F),(10,.bool X),(11,xA (p:Int)),(12,oK z),(13,xA (C:Int)),(14,xA x4),(20,i),(21,xA (d.cons.length:Int)),(22,xA (p:Int)),(28,A),(29,xA (y.scope.length:Int)),(30,xA (C:Int)),(39,ad),(40,xA (z2.length:Int))] [rw N0 1 (kP 1 xF) 58 c Y,rl 1 xF 2 ad z2,bx z [xA y.rel,A] 109,rl 3 oD 225 F W,bx h [xA d.vars,i] 67,bx f [xA j.size,x] 32]) ⟨_,ls⟩ (λ_ (W,X,Y) _ q3 F=>?_) (λk3 x5 (W,X,Y) Z y3 F=>?_)
      ·have l3:=oU q3;refine xI (xW 1 rfl (kJ l3 (xN (js [0,2,3,4,5] rfl ?_))));exact jf ⟨_,ls⟩
      refine xI (xW 1 rfl (kO (xX Z) (xY ?_)));have j2:=dS (Ah Z) i7;have m1:=qG Z i7;refine qE (js [1,0,2,3,4,5] rfl (cZ λ_ _ _ _ g2 e1 a0 _=>(jI g2.ld y3 λ_ h9=>aP h9 λi8=>xK 1 rfl (aG 4 e3 (aG 1 e3 (jA 3 rfl (jB λz3 c3=>?_)))))));refine jk (λH=>xFy z3 c3 _ aA (xB.m i1 (H.a (e1 h1))) (vS.m i4 (H.a (e1 I))) (H.r 0 rfl) (dS (Ah T) i5) i8) (kD (xT ?_ ?_))
      ·refine xPr (xU m1 (xC 1 rfl (aI a0 (js [1,0,2,3,4,5] rfl ?_))));exact jg ⟨_,ls⟩
      refine qR (jA 4 rfl (jB λz4 c4=>(cZ λ_ _ _ _ g3 _ b2 _=>(jI g3.rd c4 λ_ b3=>aR b3 λ_ b4=>jo rfl (jB λz5 c5=>(jk (λH=>xJj z5 c5 _ aA (H.a b4) i8) λ_=>aI b2 (jRi 0 c4 (λ_ b5=>?_))))))));refine jSc (hone:=(λH=>(H.l 1 rfl).one)) b5 (dL c4) n0 (λH=>λe q=>(Eo.sl q.ld)) rfl (qW (jA 4 rfl (oV e5 ?_)));refine lQ (λH=>Eo.agg (oD.m i6 i8 (dS (Ah O) i3))) λ_=>jB λz6 c6=>(js [3,0,1,2,4,5] rfl (jPL c6 λce=>xM 1 rfl (xM 1 rfl (jo rfl (jB λz7 c7=>?_)))));refine jkV (lb:=[]) call147 e2 (λH=>xPq z7 c7 _ aA) (kD (xT ?_ ?_))
      ·refine xI (oY 2 rfl (fZ (zR (fH (xFi (fZ (zR (fH (xFi ?_)))))))));refine fZ (zR (fH (zR (fZ (zR (fH (lD (aI a0 (js [1,2] rfl ?_)))))))));exact j1 (rt rfl) ⟨_,lv⟩
      refine qJ (xU m1 (xC 1 rfl (aI a0 (js [2,0,3,1,4,5] rfl ?_))));exact jg ⟨_,ls⟩
     refine aH (xU (qG T i5) (xC 1 rfl (js [1,2,3,4,0] rfl ?_)));exact jg ⟨_,ls⟩
    refine aH (xU (qG O i3) (xC 1 rfl ?_));exact jg ⟨_,ls⟩
   refine oAj ?_;exact jg ⟨_,ls⟩
  refine nS (jbk (wJ (js [0,3] rfl ?_)));exact jf ⟨_,ls⟩
 refine oO (xS 2 rfl ?_);exact j1 (rt rfl) ⟨_,lv⟩
def tG (c:List Int):Option Bool:= some (((c.length:Int)==0))
theorem xKy {e} (r) (f:tG e=some r) {c} (d) (hN:HN B d) (h:Bo B d (Sl 1 xF) c e):CG B d 149 #[c] (.st (.bool r) λD=>D):=by
 unfold tG at f
 revert r
 refine vM func149 [(0,c)] hN λr=>?_;refine xI (xM 1 rfl (jo rfl (jL h λ_=>xS 2 rfl ?_)));exact qT (rt rfl) lv
def eC (e:Int) (d:Op) (c:List Int):Option Int:= xG (ix c 0) λf=>xG (sl c 1 (c.length:Int)) λh=>oZ (σ:=Int) (oM (λx i j=>xG (aM (Op.mk d.arity d.table) e ([j,i])) λp=>some (.go p)) h 0 f) λt=>some t
theorem xMn {c h t} (r) (K:eC c h t=some r) {i j} (e) (hN:HN B e) (F:xL c) (L:Bo B e (qS 2 vU) i h) (x:Bo B e (Sl 1 xF) j t):CG B e 150 #[xA c,i,j] (.fa (xL r) <| .st (xA r) λD=>D):=by
 unfold eC at K
 revert r
 refine vM func150 [(0,xA c),(1,i),(2,j)] hN λr=>?_;refine xI ?_;obtain⟨M,rfl,N,O⟩:=vU.o L;refine jX e2 λy=>xM 1 rfl (jo rfl (jB λz1 G=>(jI x G λ_ P=>aP P λQ=>xK 1 rfl (jo rfl (jB λR S=>?_)))));refine jC rfl rfl x S λT z=>jL z λA=>xC 1 rfl (qZ (λC=>.fa (xL C) <| .st [(7,xA C)] []) ?_ (λ_ U=>?_))
 ·
  refine zK ?_;refine jl (λE d=>.fa (xL d) <| .st [(16,xA (E:Int)),(0,xA c),(4,oK y),(7,xA d),(14,T),(15,xA (R.length:Int))] [bx y [xA h.arity,M] 85]) ⟨Q,ls⟩ (λ_ d _ W p=>?_) (λE X d f Y p=>?_)
  ·have Z:=oU W;refine xI (xW 1 rfl (kJ Z (xN (js [] rfl ?_))));exact jf ⟨p,ls⟩
  refine xI (xW 1 rfl (kO (xX f) (xY ?_)));have j1:=dS (Ah f) A;refine qE (jI z Y λ_ h4=>aP h4 λi6=>jo rfl (lT (aG 0 e3 (jA 3 rfl ?_))));refine jRI [d,X] (by simp only[Ai,Ap,Au,implies_true,and_true];exact⟨p,i6⟩) λ_=>jB λz3 c2=>?_;refine jk (λH=>vG z3 c2 _ aA (vU.m N (H.a O)) F (H.l 0 rfl)) λI=>kZ 1 rfl (xU (qG f A) (xC 1 rfl (js [1] rfl ?_)));exact jg ⟨I,ls⟩
 refine oO (xS 2 rfl ?_);exact qT (rt rfl) ⟨U,lv⟩
end Go.Proofs.YtnjlbbfcngjhmaaGreat
