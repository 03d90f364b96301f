import Derived.Test.YtnjlbbfcngjhmaaGreatP8
namespace Go.Proofs.YtnjlbbfcngjhmaaGreat
set_option linter.unusedVariables false
set_option linter.unusedSimpArgs false
open Go.Proofs.Tryz
set_option maxHeartbeats 1000000
set_option maxRecDepth 100000
open Go.RowKit
variable {B:Nat->Prop} {N:Nat}
def bL (N:Nat) (c:A6) (d:A7) (e:Op):Option (B0×Int):= xG (eJ N (A6.mk c.size c.rels) (A7.mk d.vars d.cons) (Op.mk e.arity e.table) 6) λh=>if (h != 0) then some ((B0.mk 0 ([]) ([]) ([]) ([])),h) else xG (eL (A6.mk c.size c.rels) (A7.mk d.vars d.cons)) λi=>xG (gG N (A6.mk c.size c.rels) (A7.mk d.vars d.cons) i (λ_=>iP)) λf=>xG (oJ f.2 (λj=>tG j)) λp=>if p then some ((B0.mk 1 ([]) f.1 ([]) ([])),0) else oZ (σ:=List Int) (oM (λB t x=>xG (eC c.size (Op.mk e.arity e.table) t) λy=>xG (ap x ([y])) λz=>some (.go z)) f.2 0 []) λA=>some ((B0.mk 0 A ([]) ([]) ([])),0)
theorem uU {i K j} (r) (Z:bL N i K j=some r) {p t x} (c) (hN:HN B c) (A0:Bo B c (qS 2 xB) p i) (A1:Bo B c (qS 2 xH) t K) (A2:Bo B c (qS 2 vU) x j):CG B c 93 #[p,t,x] (.v λG=>.v λI=>.fa (xL r.1.kind) <| .fa (xL r.2) <| .st (.tuple #[.agg #[xA r.1.kind,G,I,kW,kW],xA r.2]) λD=>rl 1 xF 2 G r.1.values::rl 3 oD 225 I r.1.arcs::D):=by
 unfold bL at Z
 revert r
 refine vM func93 [(0,p),(1,t),(2,x)] hN λr=>?_;refine xI ?_;obtain⟨v3,rfl,d,y⟩:=xB.o A0;refine jX e2 (λL=>?_);obtain⟨ao,rfl,z,A⟩:=xH.o A1;refine jX e2 (λb2=>?_);obtain⟨v4,rfl,M,O⟩:=vU.o A2;refine jX e2 λP=>aK rfl λe=>xK 1 rfl (aG 3 e3 (aG 2 e3 (aG 1 e3 (jB λz1 c1=>?_))));refine jk (λH=>tZ z1 c1 _ aA (xB.m d (H.a y)) (xH.m z (H.a A)) (vU.m M (H.a O)) sS) λU=>xM 1 rfl (xC 2 rfl (xT ?_ ?_))
 ·refine xI (oV e5 (jo rfl (zX e3 (oE 1 rfl ?_))));exact nJ (λH=>((H.nl 1 xF 2).nl 3 oD 225).s [1,0] rfl rfl) (dA 0 e2) (rt rfl) ⟨_,_,xO,U,lv⟩
 refine qR (aG 3 e3 (aG 2 e3 (jB λz2 c2=>?_)));refine jk (λH=>uQ z2 c2 _ aA (xB.m d (H.a y)) (xH.m z (H.a A))) λQ=>xM 1 rfl (aG 4 e3 (aG 3 e3 (jo rfl (jB λC c3=>(jh (λH=>H.lw) ?_)))));refine jko 1 (λK1 H=>uW C c3 _ H.hN K1 (xB.m d (H.u y)) (xH.m z (H.u A))) λv6=>xK 1 rfl (jo rfl (jB λz4 c4=>(jk (λH=>zQ z4 c4 _ aA (H.r 1 rfl) call149 (λa0 r h W l1 u0 f0=>xKy r h W aA f0)) (kD (xT ?_ ?_)))))
 ·refine xI (jo rfl ?_);refine oV (hone:=(λH=>oc rfl (oc (H.l 0 rfl).one on))) e5 (js [2,0,1,3,4,5] rfl ?_);refine zX (hv:=(λH=>oc rfl (oc rfl (oc (H.l 1 rfl).one (oc rfl (oc rfl on)))))) e3 (oE 1 rfl ?_);exact nJ (λH=>(H.nl 1 xF 2).s [0,2] rfl rfl) (dA 0 e2) (rt rfl) ⟨_,_,zL,xO,lv⟩
 refine qR (jR0 xF λv7=>xK 1 rfl (jo rfl (jLc (λH=>H.r 2 rfl) λR=>xC 1 rfl ?_)));refine qZ (λs1=>.v λE=>.st [(6,oK e),(11,E)] [rl 1 xF 2 E s1,bx e [xA 0,kW,kW,kW,kW] 62]) ?_ (λ_ E=>?_)
 ·
  refine zK (js [0,2,3,4,6] rfl ?_);refine jl (λS T=>.v λF=>.st [(36,xA (S:Int)),(3,oK L),(5,oK P),(6,oK e),(11,F),(34,Q),(35,xA (C.2.length:Int))] [rl 1 xF 2 F T,rw N0 1 (kP 1 xF) 58 Q C.2,bx e [xA 0,kW,kW,kW,kW] 62,bx P [xA j.arity,v4] 85,bx L [xA i.size,v3] 32]) ⟨_,ls⟩ (λ_ T _ q1 F=>?_) (λS _ _ f y1 _=>?_)
  ·have l2:=oU q1;refine xI (xW 1 rfl (kJ l2 (xN (js [0,2] rfl ?_))));exact jf ⟨_,ls⟩
  refine xI (xW 1 rfl (kO (xX f) (xY ?_)));have j1:=dS (Ah f) R;refine qE (js [1,0,2,3,4] rfl (cZ λ_ _ _ _ g1 e1 X _=>(jI g1.rd y1 λ_ h4=>aR h4 λ_ h5=>jo rfl (lT (jo rfl (xZ e2 (jb 3 e3 (aG 2 e3 ?_))))))));refine jo rfl (jB λz5 c5=>?_);refine jk (λH=>xMn z5 c5 _ aA d (vU.m M (H.a (e1 O))) (H.a h5)) λY=>lQ (λH=>Eo.int Y) λ_=>jB λz6 c6=>(js [1,0,2,3,4] rfl (jPL c6 λaq=>kZ 1 rfl (xU (qG f R) (xC 1 rfl (aI X ?_)))));refine js [1,0,2,3,4] rfl ?_;exact jg ⟨_,ls⟩
 refine oO (jo rfl (jk (λH=>iV (H.l 0 rfl).one _ H.hN) (js [1,0] rfl ?_)));refine zX (hv:=(λH=>oc rfl (oc (H.l 1 rfl).one (oc rfl (oc rfl (oc rfl on)))))) e3 (xS 1 rfl ?_);exact nJ (λH=>(H.nl 3 oD 225).s [2,0] rfl rfl) (dA 0 e2) (rt rfl) ⟨_,_,xO,xO,lv⟩
def fR (c:List Int) (e:Con) (p t f h:Int):Option Bool:= oZ (σ:=Unit) (oM (λi (d:Int) s=>match s with | _=>oZ (σ:=Bool) (if (d==p) then  xG (ix c (i:Int)) λj=>if (j != t) then  some (.nx true) else  if (d==f) then  some (.nx (j != h)) else  some (.nx false) else  if (d==f) then  xG (ix c (i:Int)) λx=>some (.nx (x != h)) else  some (.nx false)) λy=>if y then some (.ret false) else some (.go ())) e.scope 0 ()) λ_=>xG (fK e c) λz=>some z
theorem xCt {z p A C E F} (r) (P:fR z p A C E F=some r) {d e f h i j} (c) (hN:HN B c) (t:Bo B c (Sl 1 xF) d z) (G:Bo B c (Pt 2 vS) e p) (Q:Bo B c (Pt 1 xF) f A) (A3:Bo B c (Pt 1 xF) h C) (I:Bo B c (Pt 1 xF) i E) (K:Bo B c (Pt 1 xF) j F):CG B c 272 #[d,e,f,h,i,j] (.st (.bool r) λD=>D):=by
 unfold fR at P
 revert r
 refine vM func272 [(0,d),(1,e),(2,f),(3,h),(4,i),(5,j)] hN λr=>?_;refine xI (xK 1 rfl (aF G vS.f1 λ_ R=>aR R λL M=>jL M λN=>xC 1 rfl (qZ (λ_=>.st [(0,d),(1,e)] []) ?_ (λ_=>?_))))
 ·
  refine zK (jl (λy _=>.st [(13,xA (y:Int)),(0,d),(1,e),(2,f),(3,h),(4,i),(5,j),(11,L),(12,xA (p.scope.length:Int))] []) ls (λ_ _ _ S=>?_) (λy x1 _ x T=>?_))
  ·have U:=oU S;refine xI (xW 1 rfl (kJ U (xN ?_)));exact jf ls
  refine xI (xW 1 rfl (kO (xX x) (xY ?_)));have j1:=dS (Ah x) N;refine qE (jo rfl (jI M T λ_ W=>aP W λ_=>xW 2 rfl (qZ (λX=>.st [(0,d),(1,e),(2,f),(3,h),(4,i),(5,j),(11,L),(12,xA (p.scope.length:Int)),(13,xA (y:Int)),(41,.bool X)] []) ?_ (λ_=>?_))))
  ·
   refine jQ (zA 1 rfl (kI Q λ_=>zA 2 rfl (fD 21 (λ_=>?_) (λ_=>?_))))
   ·
    refine zA 2 rfl (jB λz1 O=>(lM t O λ_ Y=>kI Y λ_=>kI A3 λ_=>zA 3 rfl (fD 29 (λ_=>?_) (λ_=>?_))))
    ·refine zA 12 rfl (nD (eD ?_));exact jf ls
    refine zA 1 rfl (kI I λ_=>zA 2 rfl (fD 33 (λ_=>?_) (λ_=>?_)))
    ·refine zA 2 rfl (lM t O λ_ Z=>kI Z λ_=>kI K λ_=>zA 3 rfl (nD (eD ?_)));exact jf ls
    refine zA 8 rfl (nD (eD ?_));exact jf ls
   refine zA 9 rfl (kI I λ_=>zA 2 rfl (fD 33 (λ_=>?_) (λ_=>?_)))
   ·refine zA 2 rfl (jB λz2 c2=>(lM t c2 λ_ h6=>kI h6 λ_=>kI K λ_=>zA 3 rfl (nD (eD ?_))));exact jf ls
   refine zA 8 rfl (nD (eD ?_));exact jf ls
  refine eD (xT ?_ ?_)
  ·refine xI (oY 1 rfl (fZ (zR (fH (lD ?_)))));exact qT (rt rfl) lv
  refine qJ (xU (qG x N) (xC 1 rfl ?_));exact jg ls
 refine oO (jlA G λ_ h7=>jo rfl (jB λz3 c3=>(jk (λH=>wG z3 c3 _ aA (H.a h7) (H.a t)) (xS 1 rfl ?_))));exact qT (rt rfl) lv
def fL (c:Con) (h:A6) (d e i j:Int):Option Bool:= oZ (σ:=Bool) (xG (vJ c.scope d) λf=>if (!f) then  xG (vJ c.scope e) λp=>some (.nx (!p)) else  some (.nx false)) λt=>if t then some true else xG (ix h.rels c.rel) λx=>xG (oJ x.tuples (λy=>fR y (Con.mk c.rel c.scope) d i e j)) λz=>some z
theorem xFj {p t c d e f} (r) (Q:fL p t c d e f=some r) {x y} (j) (hN:HN B j) (R:Bo B j (qS 2 vS) x p) (S:Bo B j (qS 2 xB) y t) (A:xL c) (C:xL d) (M:xL e) (N:xL f):CG B j 256 #[x,y,xA c,xA d,xA e,xA f] (.st (.bool r) λD=>D):=by
 unfold fL at Q
 revert r
 refine vM func256 [(0,x),(1,y),(2,xA c),(3,xA d),(4,xA e),(5,xA f)] hN λr=>?_;refine xI ?_;obtain⟨T,rfl,U,z⟩:=vS.o R;refine jX e2 (λE=>?_);obtain⟨O,rfl,i2,X⟩:=xB.o S;refine jX e2 λF=>jX e2 λG=>jX e2 λI=>jX e2 λK=>jX e2 λL=>jo rfl (nE ?_);refine qZ (λY=>.st [(6,oK E),(7,oK F),(8,oK G),(9,oK I),(10,oK K),(11,oK L),(24,.bool Y)] [bx L [xA f] 2,bx K [xA e] 2,bx I [xA d] 2,bx G [xA c] 2,bx F [xA t.size,O] 32,bx E [xA p.rel,T] 109]) ?_ (λ_=>?_)
 ·
  refine lP (xZ e2 (jb 5 e3 (jb 3 e3 (jB λP Z=>(jk (λH=>cJ P Z _ aA (H.a z) A) (jA 2 rfl (fD 18 (λ_=>?_) (λ_=>?_))))))))
  ·refine xZ e2 (jb 5 e3 (jb 2 e3 (jB λz1 c2=>(jk (λH=>cJ z1 c2 _ aA (H.a z) C) (xC 2 rfl ?_)))));exact jf ls
  refine xC 6 rfl ?_;exact jf ls
 refine eD (xT ?_ ?_)
 ·refine xI (oE 1 rfl ?_);exact qT (rt rfl) lv
 refine qR (xZ e2 (jb 4 e3 (xZ e2 (jb 5 e3 (jB λz2 c3=>(jI X c3 λ_ h3=>aF h3 oQ.f1 λ_ h4=>aR h4 λ_ h5=>dJ e2 (jB λz3 c4=>?_)))))));refine jk (λH=>zQ z3 c4 _ aA (H.a h5) call272 (λa0 r h W i u0 f0=>xCt r h W aA f0 ((vS.b (H.g 5 rfl).bk U (H.a z)).w i) ((c1I (H.g 3 rfl).bk A).w i) ((c1I (H.g 1 rfl).bk M).w i) ((c1I (H.g 2 rfl).bk C).w i) ((c1I (H.g 0 rfl).bk N).w i))) (xS 1 rfl ?_);exact qT (rt rfl) lv
def gR (c:Con) (e:A6) (f h:Int) (d:(List Int)):Option Bool:= xG (ix d 0) λi=>xG (ix d 1) λj=>xG (fL (Con.mk c.rel c.scope) e f h i j) λp=>some ((!p))
theorem xAm {j p t x y} (r) (E:gR j p t x y=some r) {d e f h i} (c) (hN:HN B c) (F:Bo B c (qS 2 vS) d j) (G:Bo B c (Pt 2 xB) e p) (I:Bo B c (Pt 1 xF) f t) (A3:Bo B c (Pt 1 xF) h x) (z:Bo B c (Pt 1 (kP 1 xF)) i y):CG B c 255 #[d,e,f,h,i] (.st (.bool r) λD=>D):=by
 unfold gR at E
 revert r
 refine vM func255 [(0,d),(1,e),(2,f),(3,h),(4,i)] hN λr=>?_;refine xI ?_;obtain⟨Y,rfl,K,L⟩:=vS.o F;refine jX e2 λ_=>xW 1 rfl (jQ (jqbA 0 e3 (xJu G λ_ A=>kI I λM=>kI A3 λN=>eZ z λ_ O=>jB λZ P=>(lM O P (λ_ Q=>?_)))));refine kI Q λR=>eZ z λ_ S=>jB λz2 T=>(lM S T λ_ U=>kI U λC=>jB λW X=>?_);refine jqk (λH=>xFj W X _ aA (vS.m K (H.a L)) (H.a A) M N R C) (zA 2 rfl (nD (nH ?_)));exact qT (rt rfl) lv
def bT (d:List Int) (e:A7) (f:A6) (h i:Int):Option Bool:= xG (vK e.cons (λj=>gR j f h i d)) λc=>some ((!c))
theorem xCn {t x y z A} (r) (F:bT t x y z A=some r) {e f i j p} (c) (hN:HN B c) (C:Bo B c (Sl 1 xF) e t) (G:Bo B c (Pt 2 xH) f x) (I:Bo B c (Pt 2 xB) i y) (A3:Bo B c (Pt 1 xF) j z) (K:Bo B c (Pt 1 xF) p A):CG B c 254 #[e,f,i,j,p] (.st (.bool r) λD=>D):=by
 unfold bT at F
 revert r
 refine vM func254 [(0,e),(1,f),(2,i),(3,j),(4,p)] hN λr=>?_;refine xI (jX1 rfl (λH=>(H.a C).one) λ_=>xM 1 rfl (aF G xH.f1 λ_ L=>aR L λ_ M=>dJ e2 (jB λE N=>(jk (λH=>cH E N _ aA (H.a M) call255 (λO r h W d P f0=>xAm r h W aA f0 ((H.a I).w d) ((H.a A3).w d) ((H.a K).w d) ((c1S (H.g 0 rfl).bk (H.a C)).w d))) (xS 2 rfl ?_)))));exact qT (rt rfl) lv
def iQ (N:Nat) (d c:Int) (h:(List Int)->Option Bool):Option Rel:= xG (vA d c) λi=>oZ (σ:=List (List Int)) (qM (λj e=>xG (qQ N d c (j:Int)) λf=>xG (h f) λp=>if p then xG (ap e ([f])) λt=>some (.go t) else some (.go e)) i.toNat 0 []) λx=>some ((Rel.mk c x))
theorem xFw {f c F} (r) (Q:iQ N f c F=some r) {d h} (i) (hN:HN B i) (A:xL f) (x:xL c) (O:∀ args w,(callFunc d args).run prog w= .ok (.enter d args) w) (P:∀ (G:List Int) (r:Bool),F G=some r->∀ W,Below i.heap.size i W->∀ (I:Vl),Bo (All W) W (Sl 1 xF) I G->Calls prog d ([I]++h:List Vl).toArray W (Gt (All W) W [] (.st (.bool r) λD=>D))):CG B i 253 #[xA f,xA c,.func (.func d) #[] h.toArray] (.v λC=>.fa (xL r.arity) <| .st (.agg #[xA r.arity,C]) λD=>rl 1 (kP 1 xF) 58 C r.tuples::D):=by
 unfold iQ at Q
 revert r
 refine vM func253 [(0,xA f),(1,xA c),(2,.func (.func d) #[] h.toArray)] hN λr=>?_;refine xI (aK rfl λj=>qW (jo rfl (oV e5 (aK rfl λp=>zX e3 (dZ (jA 2 rfl (jB λK R=>(jk (λH=>zU K R _ aA A x) (λE=>?_)))))))));refine xC 1 rfl ?_;refine qZ (λS=>.v λy=>.st [(6,oK j),(7,oK p)] [rl 1 (kP 1 xF) 58 y S,bx p [xA c,y] 80,bx j [xA 0,kW] 80]) ?_ (λ_ y=>?_)
 ·
  refine zK (jh (λH=>H.nl 1 (kP 1 xF) 58) ?_);refine jc (λL z=>.v λt=>.st [(15,xA (L:Int)),(0,xA f),(1,xA c),(2,.func (.func d) #[] h.toArray),(6,oK j),(7,oK p),(14,xA K)] [rl 1 (kP 1 xF) 58 t z,bx p [xA c,t] 80,bx j [xA 0,kW] 80]) ⟨_,ls⟩ (λ_ z _ e t=>?_) (λ_ L z e t=>?_)
  ·have T:=vD e;refine xI (xW 1 rfl (kJ T (xN ?_)));exact jf ⟨_,ls⟩
  refine xI (xW 1 rfl (kO (qP e) (xY ?_)));have M:=vY e E;refine qE (xM 2 rfl (jA 3 rfl (jB λU X=>(jk (λH=>lC U X _ aA A x (dT e E)) λ_=>xM 1 rfl (jA 2 rfl (jB λY Z=>?_))))));refine jkV O e2 (λH=>P _ Y Z _ H.bl _ (H.l 0 rfl)) (kD (xT ?_ ?_))
  ·refine lP (xZ e2 (jb 2 e3 (jo rfl (jh (λH=>H.os) (uL (λH=>El.sl) λ_=>jB λz4 c4=>(js [1,0,2,3] rfl (jPL c4 λv3=>xZ e2 (js [1,0,2] rfl ?_))))))));refine jW (hv:=(λH=>(H.l 1 rfl).one)) e3 (dQ (xU M (xC 1 rfl (js [1,0,2] rfl ?_))));exact jg ⟨_,ls⟩
  refine qJ (xU M (xC 1 rfl (js [1,2,3] rfl ?_)));exact jg ⟨_,ls⟩
 refine oO (aG 1 e3 (js [2,0,1] rfl ?_));refine zX (hv:=(λH=>oc rfl (oc (H.l 1 rfl).one on))) e3 (pM ?_);exact j1m (λH=>H.s [1] rfl rfl) (dA 0 e2) ⟨_,x,lv⟩
def fF (N:Nat) (c:A6) (d:A7):Option (List Rel):= oZ (σ:=List Rel) (qM (λe h=>oZ (σ:=List Rel) (qM (λi j=>xG (iQ N c.size 2 (λp=>bT p (A7.mk d.vars d.cons) (A6.mk c.size c.rels) (i:Int) (e:Int))) λf=>xG (ap j ([(Rel.mk f.arity f.tuples)])) λt=>some (.go t)) (e:Int).toNat 0 h) λx=>some (.go x)) d.vars.toNat 0 []) λy=>some y
theorem xFa {p c} (r) (T:fF N p c=some r) {A C} (t) (hN:HN B t) (U:Bo B t (qS 2 xB) A p) (X:Bo B t (qS 2 xH) C c):CG B t 218 #[A,C] (.v λM=>.st (M) λD=>rl 2 oQ 80 M r::D):=by
 unfold fF at T
 revert r
 refine vM func218 [(0,A),(1,C)] hN λr=>?_;refine xI ?_;obtain⟨E,rfl,O,Y⟩:=xB.o U;refine jX e2 (λd=>?_);obtain⟨z,rfl,F,Z⟩:=xH.o X;refine jX e2 λe=>xM 1 rfl (jR0 oQ λv3=>xK 1 rfl (xZ e2 (jb 1 e3 (xC 1 rfl (qZ (λs1=>.v λG=>.st [(5,G)] [rl 2 oQ 80 G s1]) ?_ (λ_ G=>?_))))))
 ·
  refine zK ?_;refine jc (λf I=>.v λx=>.st [(11,xA (f:Int)),(2,oK d),(3,oK e),(5,x),(10,xA c.vars)] [rl 2 oQ 80 x I,bx e [xA c.vars,z] 67,bx d [xA p.size,E] 32]) ⟨_,ls⟩ (λ_ I _ i x=>?_) (λ_ f I i x=>?_)
  ·have l2:=vD i;refine xI (xW 1 rfl (kJ l2 (xN (js [0] rfl ?_))));exact jf ⟨_,ls⟩
  refine xI (xW 1 rfl (kO (qP i) (xY ?_)));have j2:=dT i F;refine qE (jo rfl (aK rfl λP=>jW e3 (qW (jb 0 e3 (xC 1 rfl ?_)))));refine qZ (λQ=>.v λK=>.st [(2,oK d),(3,oK e),(5,K),(10,xA c.vars),(11,xA (f:Int))] [rl 2 oQ 80 K Q,bx e [xA c.vars,z] 67,bx d [xA p.size,E] 32]) ?_ (λQ K=>?_)
  ·
   refine zK ?_;refine jc (λR S=>.v λL=>.st [(15,xA (R:Int)),(2,oK d),(3,oK e),(5,L),(6,oK P),(10,xA c.vars),(11,xA (f:Int)),(14,xA (f:Int))] [bx P [xA (f:Int)] 2,rl 2 oQ 80 L S,bx e [xA c.vars,z] 67,bx d [xA p.size,E] 32]) ⟨_,ls⟩ (λ_ S _ j L=>?_) (λ_ R _ j _=>?_)
   ·have l3:=vD j;refine xI (xW 1 rfl (kJ l3 (xN (js [1,2,3] rfl ?_))));exact jf ⟨_,ls⟩
   refine xI (xW 1 rfl (kO (qP j) (xY (qE (jo rfl (aK rfl λ_=>jW e3 (lT (jo rfl ?_))))))));refine xZ e2 (jb 4 e3 (dJ e2 (jB λz1 c1=>(jk (λH=>xFw z1 c1 _ aA O rH call254 (λa0 r h W y u0 f0=>xCn r h W aA f0 ((xH.b (H.g 3 rfl).bk F (H.a Z)).w y) ((xB.b (H.g 4 rfl).bk O (H.a Y)).w y) ((c1I (H.g 0 rfl).bk (dT j j2)).w y) ((c1I (H.g 1 rfl).bk j2).w y))) λ_ i3=>jh (λH=>oQ.w i3 H) (uL (λH=>El.agg) λ_=>jB λz2 c2=>(js [3,0,1,2,4,5] rfl (jPL c2 λv8=>jo rfl ?_)))))));refine dQ (xU (vY j j2) (xC 1 rfl (js [2,0,3,4] rfl ?_)));exact jg ⟨_,ls⟩
  refine aH (xU (vY i F) (xC 1 rfl ?_));exact jg ⟨_,ls⟩
 refine oO (xS 2 rfl ?_);exact j1 (rt rfl) ⟨_,lv⟩
def gV (c d:Int):Option Int:= xG (ck ((if c<d then d else c) - 1)) λe=>xG (ck ((if c<d then d else c)*e)) λf=>xG (dv f 2) λh=>xG (ck (h+(if d<c then d else c))) λi=>some i
theorem yJ {c d} (r) (i:gV c d=some r) (e) (hN:HN B e) (t:xL c) (x:xL d):CG B e 257 #[xA c,xA d] (.fa (xL r) <| .st (xA r) λD=>D):=by
 unfold gV at i
 revert r
 refine vM func257 [(0,xA c),(1,xA d)] hN λr=>?_;refine xI (xM 1 rfl (jA 2 rfl (oFq e2 (jA 2 rfl (oFg e2 (xM 2 rfl (jA 2 rfl (jB λy j=>?_))))))));refine gM j (jB λz p=>(wT p (jB λA h=>(xRi h (jo rfl (jB λC f=>(bN f (xS 1 rfl ?_))))))));exact qT (rt rfl) ⟨(kA f),lv⟩
def fV (N:Nat) (h:List Rel) (c d e f:Int):Option Bool:= oZ (σ:=Int×Int×Int×Int) (if (decide (d<c)) then some (.nx (d,c,f,e)) else some (.nx (c,d,e,f))) λ(i,j,p,t)=>xG (gV i j) λx=>xG (ix h x) λy=>xG (iM N y ([p,t])) λz=>some z
theorem rU {E c d e f} (r) (G:fV N E c d e f=some r) {h} (p) (hN:HN B p) (I:Bo B p (Sl 2 oQ) h E) (y:xL c) (z:xL d) (A:xL e) (C:xL f):CG B p 222 #[h,xA c,xA d,xA e,xA f] (.st (.bool r) λD=>D):=by
 unfold fV at G
 revert r
 refine vM func222 [(0,h),(1,xA c),(2,xA d),(3,xA e),(4,xA f)] hN λr=>?_;refine xI (xK 1 rfl (xC 3 rfl (qZ (λ(t,x,i,j)=>.fa (xL t) <| .fa (xL x) <| .fa (xL i) <| .fa (xL j) <| .st [(0,h),(1,xA t),(2,xA x),(3,xA i),(4,xA j)] []) ?_ (λ(t,x,i,j) F K L M=>?_))))
 ·
  refine xT ?_ ?_
  ·refine lP (xC 8 rfl ?_);exact jf ⟨z,y,C,A,ls⟩
  refine xTx ?_;exact jf ⟨y,z,A,C,ls⟩
 refine oO (jA 3 rfl (jB λO P=>(jk (λH=>yJ O P _ aA F K) λW=>jB λX Q=>(jI I Q λ_ R=>jlA R λ_ S=>jA 2 rfl ?_))));refine jRI [i,j] (by simp only[Ai,Ap,Au,implies_true,and_true];exact⟨L,M⟩) λ_=>jB λT U=>(jk (λH=>uI T U _ aA (H.a S) (H.l 0 rfl)) (xS 1 rfl ?_));exact qT (rt rfl) lv
def lE (N:Nat) (d:List Int) (e:(List Rel)) (h p:Int) (c:B2):Option Bool:= xG (ix e h) λt=>xG (iM N t d) λx=>if (!x) then some false else oZ (σ:=Unit) (qM (λf s=>match s with | _=>oZ (σ:=Bool) (xG (ix d 0) λy=>xG (fV N e c.i c.through y (f:Int)) λz=>if z then  xG (ix d 1) λA=>xG (fV N e c.through c.j (f:Int) A) λB=>some (.nx B) else  some (.nx false)) λC=>if C then some (.ret true) else some (.go ())) p.toNat 0 ()) λ_=>some false
theorem xIe {A C E i F} (r) (L:lE N A C E i F=some r) {e f p t h} (c) (hN:HN B c) (x:Bo B c (Sl 1 xF) e A) (y:Bo B c (Pt 1 (kP 2 oQ)) f C) (M:Bo B c (Pt 1 xF) p E) (A3:Bo B c (Pt 1 xF) t i) (j:Bo B c (Pt 3 xP) h F):CG B c 258 #[e,f,p,t,h] (.st (.bool r) λD=>D):=by
 unfold lE at L
 revert r
 refine vM func258 [(0,e),(1,f),(2,p),(3,t),(4,h)] hN λr=>?_;refine xI (xK 1 rfl (aR y λ_ O=>aP M λ_=>jB λz1 P=>(jI O P λ_ Q=>jlA Q λ_ R=>jo rfl (jB λS T=>(jk (λH=>uI S T _ aA (H.a R) (H.a x)) ?_)))));refine xC 1 rfl (xT ?_ ?_)
 ·refine xI (oE 1 rfl ?_);exact qT (rt rfl) lv
 refine vT (aP A3 λG=>xC 1 rfl (qZ (λ_=>.st [] []) ?_ (λ_=>?_)))
 ·
  refine zK (jc (λz _=>.st [(16,xA (z:Int)),(0,e),(1,f),(4,h),(15,xA i)] []) ls (λ_ _ _ d=>?_) (λ_ z _ d=>?_))
  ·have U:=vD d;refine xI (xW 1 rfl (kJ U (xN ?_)));exact jf ls
  refine xI (xW 1 rfl (kO (qP d) (xY ?_)));have j1:=dT d G;refine qE (xW 2 rfl (qZ (λW=>.st [(0,e),(1,f),(4,h),(15,xA i),(16,xA (z:Int)),(40,.bool W)] []) ?_ (λ_=>?_)))
  ·
   refine jQ (eZ y λ_ X=>cI j xP.f0 λ_ Y=>kI Y λZ=>cI j xP.f2 λ_ h6=>kI h6 λi3=>zA 1 rfl (jB λz3 c3=>(lM x c3 λ_ h7=>kI h7 λi4=>zA 1 rfl ?_)));refine jB λz4 c4=>(jqk (λH=>rU z4 c4 _ aA (H.a X) Z i3 i4 j1) (zA 1 rfl (fD 29 (λ_=>?_) (λ_=>?_))))
   ·refine eZ y λ_ h8=>cI j xP.f2 λ_ h9=>kI h9 λi5=>cI j xP.f1 λ_ I=>kI I λi6=>zA 2 rfl (jB λz5 c5=>(lM x c5 λ_ K=>kI K λi7=>jB λz6 c6=>(jqk (λH=>rU z6 c6 _ aA (H.a h8) i5 i6 j1 i7) ?_)));refine zA 1 rfl (nD (eD ?_));exact jf ls
   refine zA 11 rfl (nD (eD ?_));exact jf ls
  refine eD (xT ?_ ?_)
  ·refine xI (oY 1 rfl (fZ (zR (fH (lD ?_)))));exact qT (rt rfl) lv
  refine qJ (xU (vY d G) (xC 1 rfl ?_));exact jg ls
 refine oO (xS 1 rfl ?_);exact qT (rt rfl) lv
def mB (N:Nat) (h:Int) (d:List Rel) (c:B2):Option (Bool×(List Rel)):= xG (gV c.i c.j) λe=>xG (iQ N h 2 (λp=>lE N p d e h (B2.mk c.i c.j c.through))) λf=>xG (ix d e) λt=>if ((f.tuples.length:Int)==(t.tuples.length:Int)) then some (false,d) else some (true,(d.set (e).toNat (Rel.mk f.arity f.tuples)))
theorem xMz {d:Int} {y:List Rel} {z:B2} (r:Bool×(List Rel)) (K:mB N d y z=some r) {f:Vl} {j:Vl} {A:List Nat} (c:Wd) (hN:HN B c) (L:Sep A B c c [rw N0 2 oQ 80 f y]) (t:xL d) (M:Bo B c (qS 3 xP) j z):Calls prog 219 #[xA d,f,j] c (Gt B c A (.st (.bool r.1) λD=>rw N0 2 oQ 80 f r.2::D)):=by
 unfold mB at K
 revert r
 refine jin func219 [(0,xA d),(1,f),(2,j)] L λr=>?_;refine xI (jX e2 λ_=>jX1 rfl (λH=>(H.r 1 rfl).one) (λ_=>?_));obtain⟨rfl,C,E,O⟩:=xP.o M;refine jX e2 λ_=>xM 1 rfl (xZ e2 (jb 0 e3 (xZ e2 (jb 0 e3 (jB λP Q=>(jk (λH=>yJ P Q _ aA C E) λG=>aK rfl λ_=>jW e3 ?_))))));refine qW (jb 3 e3 (dJ e2 (jB λF R=>(jk (λH=>xFw F R _ aA t rH call258 (λa0 r h W i u0 f0=>xIe r h W aA f0 ((c1S (H.g 2 rfl).bk (H.r 4 rfl)).w i) ((c1I (H.g 0 rfl).bk G).w i) ((c1I (H.g 3 rfl).bk t).w i) ((xP.b (H.g 1 rfl).bk C E O).w i))) λS T=>aK rfl (λ_=>?_)))));refine zX (hv:=(λH=>oc rfl (oc (H.l 1 rfl).one on))) e3 (nE (js [6,0,1,2,3,4,5] rfl (cZ λ_ _ _ _ U _ x _=>(jQ (sW e2 (jqb 0 e3 (oIl (λH=>H.l 1 rfl) λ_=>jqb 4 e3 (jqb 2 e3 (jB λz3 p=>?_)))))))));refine lM U.rd p λ_ X=>cI X oQ.f1 λ_ Y=>eZ Y λ_ Z=>jqL Z λ_=>zA 1 rfl (nD (eD (xT ?_ ?_)))
 ·refine xI (oE 1 rfl (aI x (js [0] rfl ?_)));exact j1 (rt rfl) lv
 refine qR (jb 4 e3 (jb 2 e3 (aG 0 e3 (aI x (jRi 0 p λ_ I=>js [0,2,1,3,4,5,6] rfl ?_)))));refine jSX (vs:=[xA F.arity,S]) (λH=>.inl ⟨sizeOf80,rfl,(oc rfl (oc (H.l 1 rfl).one on))⟩) (RPt.o I) (rN p) n0 (λH=>λe q=>(Eo.agg (oQ.m T q.ld)).tn) rfl (qW (xS 1 rfl (js [0] rfl ?_)));exact j1 (rt rfl) lv
def iA (N:Nat) (h:A6) (c:A7):Option ((List Rel)×(List B2)):= xG (fF N (A6.mk h.size h.rels) (A7.mk c.vars c.cons)) λP=>oZ (σ:=(List B2)×Bool×(List Rel)) (mL (λs=>match s with | (t,x,y)=>if x then oZ (σ:=(List B2)×Bool×(List Rel)) (qM (λd s=>match s with | (Q,R,S)=>oZ (σ:=(List B2)×Bool×(List Rel)) (qM (λi s=>match s with | (T,U,W)=>oZ (σ:=(List B2)×Bool×(List Rel)) (qM (λe s=>match s with | (j,A,f)=>oZ (σ:=(List Rel)×Bool) (if ((e:Int) != (i:Int)) then  if ((e:Int) != (d:Int)) then  xG (mB N h.size f (B2.mk (i:Int) (d:Int) (e:Int))) λz=>some (.nx (z.2,z.1)) else  some (.nx (f,false)) else  some (.nx (f,false))) λ(p,B)=>if B then xG (ap j ([(B2.mk (i:Int) (d:Int) (e:Int))])) λX=>some (.go (X,true,p)) else some (.go (j,A,p))) c.vars.toNat 0 (T,U,W)) λ(C,D,E)=>some (.go (C,D,E))) (d:Int).toNat 0 (Q,R,S)) λ(F,G,H)=>some (.go (F,G,H))) c.vars.toNat 0 (t,false,y)) λ(I,K,L)=>some (.go (I,K,L)) else some (.brk (t,x,y))) N ([],true,P)) λ(M,Y,O)=>some (O,M)
theorem xHh {h c} (r) (hR:iA N h c=some r) {v0 v1} (M) (hN:HN B M) (A0:Bo B M (qS 2 xB) v0 h) (A1:Bo B M (qS 2 xH) v1 c):CG B M 151 #[v0,v1] (.v λaa=>.v λab=>.st (.tuple #[aa,ab]) λD=>rw N0 2 oQ 80 aa r.1::rl 3 xP 165 ab r.2::D):=by
 unfold iA at hR
 revert r
 refine vM func151 [(0,v0),(1,v1)] hN λr=>?_;refine xI ?_;obtain⟨j,rfl,i1,h1⟩:=xB.o A0;refine jX e2 (λd=>?_);obtain⟨i,rfl,A,h2⟩:=xH.o A1;refine jX e2 λe=>xM 2 rfl (aG 1 e3 (aG 0 e3 (jB λz1 c1=>?_)));refine jk (λH=>xFa z1 c1 _ aA (xB.m i1 (H.a h1)) (xH.m A (H.a h2))) λv3=>xM 1 rfl (jR0 xP λv4=>xK 1 rfl (xC 1 rfl (qZ (λ(s1,s2,s3)=>.v λv5=>.v λv6=>.st [(6,v6),(7,v5)] [rl 3 xP 165 v5 s1,rw N0 2 oQ 80 v6 s3]) ?_ (λ(s1,s2,s3) v5 v6=>?_))))
 ·
  refine zK (js [1,0,2,3] rfl (jh (λH=>H.lw) (js [1,0,2,3] rfl ?_)));refine jw (λ(s4,s5,s6)=>.v λv7=>.v λv8=>.st [(2,oK d),(3,oK e),(6,v8),(7,v7),(8,.bool s5)] [rl 3 xP 165 v7 s4,rw N0 2 oQ 80 v8 s6,bx e [xA c.vars,i] 67,bx d [xA h.size,j] 32]) ⟨_,_,ls⟩ (λ_ (s4,s5,s6) v7 v8=>?_);refine xR (xC 1 rfl (xT ?_ ?_))
  ·
   refine xCj (xM 1 rfl (xZ e2 (jb 2 e3 (xC 1 rfl ?_))));refine qZ (λ(s7,s8,s9)=>.v λv9=>.v λP=>.st [(2,oK d),(3,oK e),(6,P),(7,v9),(8,.bool s8)] [rl 3 xP 165 v9 s7,rw N0 2 oQ 80 P s9,bx e [xA c.vars,i] 67,bx d [xA h.size,j] 32]) ?_ (λ(s7,s8,s9) v9 P=>?_)
   ·
    refine zK ?_;refine jc (λf (Q,R,S)=>.v λC=>.v λE=>.st [(20,xA (f:Int)),(2,oK d),(3,oK e),(6,E),(7,C),(8,.bool R),(19,xA c.vars)] [rl 3 xP 165 C Q,rw N0 2 oQ 80 E S,bx e [xA c.vars,i] 67,bx d [xA h.size,j] 32]) ⟨_,_,ls⟩ (λ_ (Q,R,S) _ x C E=>?_) (λ_ f (Q,R,S) x C E=>?_)
    ·have l1:=vD x;refine xI (xW 1 rfl (kJ l1 (xN ?_)));exact jf ⟨_,_,ls⟩
    refine xI (xW 1 rfl (kO (qP x) (xY ?_)));have j1:=dT x A;refine qE (xM 2 rfl (xC 2 rfl ?_));refine qZ (λ(ac,ad,ae)=>.v λT=>.v λU=>.st [(2,oK d),(3,oK e),(6,U),(7,T),(8,.bool ad),(19,xA c.vars),(20,xA (f:Int))] [rl 3 xP 165 T ac,rw N0 2 oQ 80 U ae,bx e [xA c.vars,i] 67,bx d [xA h.size,j] 32]) ?_ (λ(ac,ad,ae) T U=>?_)
    ·
     refine zK ?_;refine jc (λp (W,X,Y)=>.v λF=>.v λG=>.st [(24,xA (p:Int)),(2,oK d),(3,oK e),(6,G),(7,F),(8,.bool X),(9,xA (f:Int)),(19,xA c.vars),(20,xA (f:Int)),(23,xA (f:Int))] [rl 3 xP 165 F W,rw N0 2 oQ 80 G Y,bx e [xA c.vars,i] 67,bx d [xA h.size,j] 32]) ⟨_,_,ls⟩ (λ_ (W,X,Y) _ y F G=>?_) (λ_ p (W,X,Y) y F G=>?_)
     ·have l2:=vD y;refine xI (xW 1 rfl (kJ l2 (xN ?_)));exact jf ⟨_,_,ls⟩
     refine xI (xW 1 rfl (kO (qP y) (xY ?_)));have j3:=dT y j1;refine qE (xM 2 rfl (xZ e2 (jb 2 e3 (xC 1 rfl ?_))));refine qZ (λ(af,ag,ah)=>.v λZ=>.v λa0=>.st [(2,oK d),(3,oK e),(6,a0),(7,Z),(8,.bool ag),(9,xA (f:Int)),(19,xA c.vars),(20,xA (f:Int)),(23,xA (f:Int)),(24,xA (p:Int))] [rl 3 xP 165 Z af,rw N0 2 oQ 80 a0 ah,bx e [xA c.vars,i] 67,bx d [xA h.size,j] 32]) ?_ (λ(af,ag,ah) Z a0=>?_)
     ·
      refine zK ?_;refine jc (λO (I,K,a1)=>.v λt=>.v λL=>.st [(29,xA (O:Int)),(2,oK d),(3,oK e),(6,L),(7,t),(8,.bool K),(9,xA (f:Int)),(10,xA (p:Int)),(19,xA c.vars),(20,xA (f:Int)),(23,xA (f:Int)),(24,xA (p:Int)),(28,xA c.vars)] [rl 3 xP 165 t I,rw N0 2 oQ 80 L a1,bx e [xA c.vars,i] 67,bx d [xA h.size,j] 32]) ⟨_,_,ls⟩ (λ_ (I,K,a1) _ z t L=>?_) (λ_ O (I,K,a1) z t L=>?_)
      ·have l3:=vD z;refine xI (xW 1 rfl (kJ l3 (xN ?_)));exact jf ⟨_,_,ls⟩
      refine xI (xW 1 rfl (kO (qP z) (xY ?_)));have j4:=dT z A;have m1:=vY z A;refine qE (xM 2 rfl (jA 3 rfl (oV e5 (aK rfl λb3=>zX e3 (yD ?_)))));refine qZ (λ(ai,aj)=>.v λa2=>.st [(2,oK d),(3,oK e),(6,a2),(7,t),(8,.bool K),(9,xA (f:Int)),(10,xA (p:Int)),(12,oK b3),(19,xA c.vars),(20,xA (f:Int)),(23,xA (f:Int)),(24,xA (p:Int)),(28,xA c.vars),(29,xA (O:Int)),(50,.bool aj)] [bx b3 [xA (p:Int),xA (f:Int),xA (O:Int)] 165,rl 3 xP 165 t I,rw N0 2 oQ 80 a2 ai,bx e [xA c.vars,i] 67,bx d [xA h.size,j] 32]) ?_ (λ(ai,aj) a2=>?_)
      ·
       refine lP (jA 4 rfl (fD 39 (λ_=>?_) (λ_=>?_)))
       ·
        refine jA 5 rfl (fD 44 (λ_=>?_) (λ_=>?_))
        ·refine xZ e2 (jb 4 e3 (jo rfl (aG 0 e3 (jB λz2 c2=>(js [2,0,1,3,4] rfl ?_)))));refine jko 1 (λK1 H=>xMz z2 c2 _ H.hN K1 i1 (xP.m j3 j1 j4)) (xC 1 rfl (js [1,2,0,3,4] rfl ?_));exact jf ⟨_,ls⟩
        refine xC 6 rfl ?_;exact jf ⟨_,ls⟩
       refine xC 11 rfl ?_;exact jf ⟨_,ls⟩
      refine eD (xT ?_ ?_)
      ·refine xI (jo rfl (aG 0 e3 ?_));refine lQ (λH=>Eo.agg (xP.m j3 j1 j4)) λ_=>jB λz3 c3=>(js [2,0,1,3,4,5] rfl (jPL c3 λbe=>jo rfl (lT (kZ 1 rfl (xU m1 (xC 1 rfl ?_))))));refine js [0,2,3,4] rfl ?_;exact jg ⟨_,_,ls⟩
      refine qJ (xU m1 (xC 1 rfl (js [1,2,3,4] rfl ?_)));exact jg ⟨_,_,ls⟩
     refine aH (xU (vY y j1) (xC 1 rfl ?_));exact jg ⟨_,_,ls⟩
    refine aH (xU (vY x A) (xC 1 rfl ?_));exact jg ⟨_,_,ls⟩
   refine oAj ?_;exact jg ⟨_,_,ls⟩
  refine nS (jbk (wJ (js [0,1] rfl ?_)));exact jf ⟨_,_,ls⟩
 refine oO (xS 4 rfl (js [1,0] rfl ?_));exact j2 (rt rfl) (rt rfl) ⟨_,_,lv⟩
def pT (N:Nat) (c:Int) (d:(List Rel)) (e f:Int):Option Bool:= xG (fV N d 0 e f c) λh=>some h
theorem xGr {d i j p} (r) (y:pT N d i j p=some r) {e f h} (c) (hN:HN B c) (t:xL d) (z:Bo B c (Pt 1 (kP 2 oQ)) e i) (A:Bo B c (Pt 1 xF) f j) (A3:Bo B c (Pt 1 xF) h p):CG B c 259 #[xA d,e,f,h] (.st (.bool r) λD=>D):=by
 unfold pT at y
 revert r
 refine vM func259 [(0,xA d),(1,e),(2,f),(3,h)] hN λr=>?_;refine xI (xM 1 rfl (aR z λ_ C=>aP A λE=>aP A3 λF=>jo rfl (jB λG x=>(jk (λH=>rU G x _ aA (H.a C) xO E F t) (xS 1 rfl ?_)))));exact qT (rt rfl) lv
def tI (N:Nat) (d e:Int) (f:List Rel) (h:Int):Option Bool:= oZ (σ:=Int) (mL (λc=>if (decide (c<e)) then xG (pL 0 d) λi=>xG (qU i (λj=>pT N j f c h)) λp=>if (!p) then some (.ret false) else xG (ck (c+1)) λt=>some (.go t) else some (.brk c)) N 1) λx=>some true
theorem xKu {c d x e} (r) (I:tI N c d x e=some r) {f} (i) (hN:HN B i) (F:xL c) (Q:xL d) (y:Bo B i (Sl 2 oQ) f x) (G:xL e):CG B i 221 #[xA c,xA d,f,xA e] (.st (.bool r) λD=>D):=by
 unfold tI at I
 revert r
 refine vM func221 [(0,xA c),(1,xA d),(2,f),(3,xA e)] hN λr=>?_;refine xI (jX1 rfl (λH=>(H.a y).one) λz=>jX e2 λA=>xK 1 rfl (aK rfl λR=>jW e3 (kD (qZ (λK=>.fa (xL K) <| .st [] []) ?_ (λ_ _=>?_)))))
 ·
  refine zK ?_;refine jw (λj=>.n λp=>.fa (xL j) <| .st [(0,xA c),(1,xA d),(6,oK z),(7,oK A),(9,oK p)] [bx p [xA j] 2,bx A [xA e] 2,bx z [f] 30]) ⟨_,zL,ls⟩ λ_ j p C=>xR (jb 0 e3 (xC 2 rfl (xT ?_ ?_)))
  ·
   refine nK (jo rfl (jB λL M=>(jk (λH=>xBz L M _ aA xO F) λ_=>dJ e2 (jB λO P=>(jk (λH=>aX O P _ aA (H.l 0 rfl) call259 (λS r h W t f0=>xGr r h W aA f0 ((c1S (H.g 3 rfl).bk (H.a y)).w t) ((c1I (H.g 1 rfl).bk C).w t) ((c1I (H.g 2 rfl).bk G).w t))) (xC 1 rfl (xT ?_ ?_)))))))
   ·refine xI (oY 1 rfl (fZ (zR (fH (lD ?_)))));exact qT (rt rfl) lv
   refine oAx (jb 1 e3 (lT (aK rfl λT=>jW e3 (lT (jb 0 e3 (jB λU E=>(bN E (jW e3 (kD ?_)))))))));refine js [0,3,4] rfl ?_;exact jg ⟨_,(kA E),ls⟩
  refine nS (jbk (wJ (js [] rfl ?_)));exact jf ⟨C,ls⟩
 refine oO (xS 1 rfl ?_);exact qT (rt rfl) lv
def cT (N:Nat) (d c h i:Int) (e:(List Rel)) (j:(List Int)):Option Bool:= if (c==0) then xG (tI N h i e d) λp=>some p else oZ (σ:=Unit) (qM (λf s=>match s with | _=>xG (ix j (f:Int)) λt=>xG (fV N e (f:Int) c t d) λx=>if (!x) then some (.ret false) else some (.go ())) c.toNat 0 ()) λ_=>some true
theorem xIr {e j z A C E} (r) (L:cT N e j z A C E=some r) {f p t h i} (c) (hN:HN B c) (y:xL e) (x:Bo B c (Pt 1 xF) f j) (M:Bo B c (Pt 1 xF) p z) (A3:Bo B c (Pt 1 xF) t A) (F:Bo B c (Pt 1 (kP 2 oQ)) h C) (O:Bo B c (Pt 1 (kP 1 xF)) i E):CG B c 220 #[xA e,f,p,t,h,i] (.st (.bool r) λD=>D):=by
 unfold cT at L
 revert r
 refine vM func220 [(0,xA e),(1,f),(2,p),(3,t),(4,h),(5,i)] hN λr=>?_;refine xI (xK 1 rfl (aP x λ_=>xC 1 rfl (xT ?_ ?_)))
 ·refine xI (aP M λP=>aP A3 λQ=>aR F λ_ K=>jo rfl (jB λR S=>(jk (λH=>xKu R S _ aA P Q (H.a K) y) (oE 1 rfl ?_))));exact qT (rt rfl) lv
 refine vT (aP x λG=>xC 1 rfl (qZ (λ_=>.st [] []) ?_ (λ_=>?_)))
 ·
  refine zK (jc (λI _=>.st [(17,xA (I:Int)),(0,xA e),(1,f),(4,h),(5,i),(16,xA j)] []) ls (λ_ _ _ d=>?_) (λ_ I _ d=>?_))
  ·have T:=vD d;refine xI (xW 1 rfl (kJ T (xN ?_)));exact jf ls
  refine xI (xW 1 rfl (kO (qP d) (xY (qE (xW 2 rfl (jQ (eZ F λ_ U=>zA 1 rfl ?_)))))));refine kI x λW=>eZ O λ_ X=>zA 1 rfl (jB λz2 Y=>(lM X Y λ_ Z=>kI Z λi5=>zA 1 rfl (jB λz3 c3=>(jqk (λH=>rU z3 c3 _ aA (H.a U) (dT d G) W i5 y) (zA 1 rfl (nD ?_))))));refine eD (xT ?_ ?_)
  ·refine xI (oY 1 rfl (fZ (zR (fH (lD ?_)))));exact qT (rt rfl) lv
  refine qJ (xU (vY d G) (xC 1 rfl ?_));exact jg ls
 refine oO (xS 1 rfl ?_);exact qT (rt rfl) lv
def sA (N:Nat) (c d:Int) (h:List Rel):Option ((List Int)×Bool):= oZ (σ:=List Int) (qM (λi e=>xG (pL 0 c) λj=>xG (qA j (λp=>cT N p (i:Int) c d h e)) λf=>if (decide (f<0)) then some (.ret ([],false)) else xG (ap e ([f])) λt=>some (.go t)) d.toNat 0 []) λx=>some (x,true)
theorem xMs {e c C} (r) (O:sA N e c C=some r) {j} (t) (hN:HN B t) (z:xL e) (p:xL c) (E:Bo B t (Sl 2 oQ) j C):CG B t 152 #[xA e,xA c,j] (.v λA=>.st (.tuple #[A,.bool r.2]) λD=>rl 1 xF 2 A r.1::D):=by
 unfold sA at O
 revert r
 refine vM func152 [(0,xA e),(1,xA c),(2,j)] hN λr=>?_;refine xI (jX e2 λF=>jX e2 λG=>jX1 rfl (λH=>(H.a E).one) λI=>xM 2 rfl (jR0 xF λY=>aK rfl λi=>jW (hv:=(λH=>(H.l 1 rfl).one)) e3 (dZ (jb 3 e3 ?_))));refine xC 1 rfl ?_;refine qZ (λP=>.v λx=>.st [(8,oK i)] [bx i [x] 58,rl 1 xF 2 x P]) ?_ (λ_ x=>?_)
 ·
  refine zK ?_;refine jc (λK L=>.v λy=>.st [(13,xA (K:Int)),(3,oK F),(4,oK G),(5,oK I),(8,oK i),(12,xA c)] [bx i [y] 58,rl 1 xF 2 y L,bx I [j] 30,bx G [xA c] 2,bx F [xA e] 2]) ⟨_,ls⟩ (λ_ L _ d y=>?_) (λ_ K _ d _=>?_)
  ·have Q:=vD d;refine xI (xW 1 rfl (kJ Q (xN (js [0,1] rfl ?_))));exact jf ⟨_,ls⟩
  refine xI (xW 1 rfl (kO (qP d) (xY (qE (jo rfl (aK rfl λ_=>jW e3 (qW (jb 5 e3 ?_))))))));refine jB λR S=>(jk (λH=>xBz R S _ aA xO z) λ_=>dJ e2 (jB λT U=>(jk (λH=>bW T U _ aA (H.l 0 rfl) call220 (λZ r h W f f0=>xIr r h W aA f0 ((c1I (H.g 1 rfl).bk (dT d p)).w f) ((c1I (H.g 6 rfl).bk z).w f) ((c1I (H.g 5 rfl).bk p).w f) ((c1S (H.g 4 rfl).bk (H.a E)).w f) ((c1S (H.g 2 rfl).bk (H.l 3 rfl)).w f))) λM=>xK 1 rfl (xC 2 rfl (xT ?_ ?_)))))
  ·refine xI (jA 2 rfl (rO (fZ (zR (fH (lD (jh (λH=>H.nl 1 xF 2) (js [0] rfl ?_))))))));exact j2 (rt rfl) (rt rfl) ⟨_,lv⟩
  refine xUh (jb 2 e3 (jo rfl (lQ (λH=>Eo.int M) λ_=>jB λz3 X=>(js [4,0,1,2,3,5,6,7] rfl (jPL X λv5=>js [3,0,1,2,4,5,6] rfl (jW (hv:=(λH=>(H.l 1 rfl).one)) e3 (dQ (xU (vY d p) ?_))))))));refine xC 1 rfl (js [0,1,4,5,6] rfl ?_);exact jg ⟨_,ls⟩
 refine oO (jb 0 e3 (xS 2 rfl (js [1] rfl ?_)));exact j2 (rt rfl) (rt rfl) ⟨_,lv⟩
def dF (N:Nat) (d:A6) (c:A7) (f:Op):Option (B0×Int):= xG (eJ N (A6.mk d.size d.rels) (A7.mk c.vars c.cons) (Op.mk f.arity f.table) 7) λh=>if (h != 0) then some ((B0.mk 0 ([]) ([]) ([]) ([])),h) else if (c.vars==1) then xG (eL (A6.mk d.size d.rels) (A7.mk c.vars c.cons)) λt=>xG (gG N (A6.mk d.size d.rels) (A7.mk c.vars c.cons) t (λ_=>iP)) λi=>xG (ix i.2 0) λj=>if ((j.length:Int)==0) then some ((B0.mk 1 ([]) i.1 ([]) ([])),0) else xG (sl j 0 1) λx=>some ((B0.mk 0 x ([]) ([]) ([])),0) else xG (iA N (A6.mk d.size d.rels) (A7.mk c.vars c.cons)) λe=>xG (qX e.1 (λy=>mP y)) λz=>if z then some ((B0.mk 2 ([]) ([]) e.2 ([])),0) else xG (sA N d.size c.vars e.1) λp=>if (!p.2) then some ((B0.mk 0 ([]) ([]) ([]) ([])),6) else some ((B0.mk 0 p.1 ([]) ([]) ([])),0)
theorem xAa {E F G} (r) (O:dF N E F G=some r) {j p t} (c) (hN:HN B c) (P:Bo B c (qS 2 xB) j E) (Q:Bo B c (qS 2 xH) p F) (S:Bo B c (qS 2 vU) t G):CG B c 94 #[j,p,t] (.v λy=>.v λz=>.v λA=>.fa (xL r.1.kind) <| .fa (xL r.2) <| .st (.tuple #[.agg #[xA r.1.kind,y,z,A,kW],xA r.2]) λD=>ro B (V:=(Sl 1 xF)) y r.1.values::rl 3 oD 225 z r.1.arcs::rl 3 xP 165 A r.1.pairs::D):=by
 unfold dF at O
 revert r
 refine vM func94 [(0,j),(1,p),(2,t)] hN λr=>?_;refine xI ?_;obtain⟨v3,rfl,d,f⟩:=xB.o P;refine jX e2 (λb1=>?_);obtain⟨af,rfl,e,i⟩:=xH.o Q;refine jX e2 (λb2=>?_);obtain⟨v4,rfl,T,U⟩:=vU.o S;refine jX e2 λb3=>aK rfl λb4=>xK 1 rfl (aG 3 e3 (aG 2 e3 (aG 1 e3 (jB λX Y=>?_))));refine jk (λH=>tZ X Y _ aA (xB.m d (H.a f)) (xH.m e (H.a i)) (vU.m T (H.a U)) xNf) λL=>xM 1 rfl (xC 2 rfl (xT ?_ ?_))
 ·refine xI (oV e5 (jo rfl (zX e3 (oE 1 rfl (js [0] rfl (jh (λH=>H.rob (Bo.snil (sz:=1) (R:=xF))) ?_))))));exact nJ (λH=>((H.nl 3 oD 225).nl 3 xP 165).s [2,1,0] rfl rfl) (dA 1 e2) (rt rfl) ⟨_,_,_,xO,L,lv⟩
 refine vT (xZ e2 (jb 2 e3 (xC 1 rfl (xT ?_ ?_))))
 ·
  refine xI (aG 3 e3 (aG 2 e3 (jB λZ M=>?_)));refine jk (λH=>uQ Z M _ aA (xB.m d (H.a f)) (xH.m e (H.a i))) λv5=>xM 1 rfl (aG 4 e3 (aG 3 e3 (jo rfl (jB λz3 c2=>(jh (λH=>H.lw) ?_)))));refine jko 1 (λK1 H=>uW z3 c2 _ H.hN K1 (xB.m d (H.u f)) (xH.m e (H.u i))) λv6=>xK 1 rfl (jo rfl (jB λz4 I=>(js [1,0,2,3,4,5] rfl (cZ λ_ _ _ _ g1 _ C _=>?_))));have K:=g1.rd;refine jI K I λ_ h5=>aR h5 λ_ h6=>jL h6 λ_=>xC 1 rfl (xT ?_ ?_)
  ·refine xI (jo rfl ?_);refine oV (hone:=(λH=>oc rfl (oc (H.l 0 rfl).one on))) e5 (js [1,0,2,3,4] rfl ?_);refine zX (hv:=(λH=>oc rfl (oc rfl (oc (H.l 1 rfl).one (oc rfl (oc rfl on)))))) e3 (jo rfl (xIx (js [0,1] rfl (aI C (jh (λH=>H.rob (Bo.snil (sz:=1) (R:=xF))) ?_)))));exact nJ (λH=>(H.nl 3 xP 165).s [1,4,0] rfl rfl) (dA 2 e2) (rt rfl) ⟨_,_,_,zL,xO,lv⟩
  refine qR (jo rfl (jI K I λ_ h7=>aR h7 λ_ h8=>jB λz5 c4=>(jCk h8 c4 e3 λv7 x=>jk (λH=>iV (H.a x).one _ H.hN) (js [1,0,2,3,4] rfl ?_))));refine zX (hv:=(λH=>oc rfl (oc (H.a x).one (oc rfl (oc rfl (oc rfl on)))))) e3 (oE 1 rfl (jh (λH=>H.rob x) (js [0,1] rfl ?_)));refine jh (λH=>C.2.1 H (Ns.all ⟨n0,trivial⟩)) ?_;exact nJ (λH=>((H.nl 3 oD 225).nl 3 xP 165).s [2,1,0] rfl rfl) (dA 1 e2) (rt rfl) ⟨_,_,_,xO,xO,lv⟩
 refine qR (aG 3 e3 (aG 2 e3 (jB λz6 c5=>?_)));refine jk (λH=>xHh z6 c5 _ aA (xB.m d (H.a f)) (xH.m e (H.a i))) λ_ v8=>xK 5 rfl (jo rfl (jB λz7 c6=>(jk (λH=>aJ z7 c6 _ aA (H.r 0 rfl) call84 (λa0 r h W l1 u0 f0=>xCb r h W aA f0)) (kD (xT ?_ ?_)))))
 ·refine xI (jo rfl ?_);refine oV (hone:=(λH=>oc rfl (oc (H.l 1 rfl).one on))) e5 (js [2,0,1,3,4,5] rfl ?_);refine zX (hv:=(λH=>oc rfl (oc rfl (oc rfl (oc (H.l 2 rfl).one (oc rfl on)))))) e3 (oE 1 rfl (js [0,2] rfl (jh (λH=>H.rob (Bo.snil (sz:=1) (R:=xF))) ?_)));exact nJ (λH=>(H.nl 3 oD 225).s [1,0,3] rfl rfl) (dA 1 e2) (rt rfl) ⟨_,_,_,rH,xO,lv⟩
 refine qR (xZ e2 (jb 5 e3 (xZ e2 (jb 4 e3 (jo rfl (jB λz8 c7=>(jk (λH=>xMs z8 c7 _ aA d e (H.r 0 rfl)) λv9=>xK 5 rfl (jA 2 rfl ?_))))))));refine kD (xT ?_ ?_)
 ·refine xI (oV e5 (js [3,0,1,2,4,5,6] rfl (zX e3 (oE 1 rfl (js [0] rfl (jh (λH=>H.rob (Bo.snil (sz:=1) (R:=xF))) ?_))))));exact nJ (λH=>((H.nl 3 oD 225).nl 3 xP 165).s [2,1,0] rfl rfl) (dA 1 e2) (rt rfl) ⟨_,_,_,xO,sS,lv⟩
 refine qR (jo rfl (jk (λH=>iV (H.l 0 rfl).one _ H.hN) (js [3,0,1,2,4,5,6] rfl ?_)));refine zX (hv:=(λH=>oc rfl (oc (H.l 1 rfl).one (oc rfl (oc rfl (oc rfl on)))))) e3 (xS 1 rfl (js [0,1] rfl (js [1,0] rfl (jh (λH=>H.lw) (jh (λH=>H.rwo) (jh (λH=>H.rok) ?_))))));exact nJ (λH=>((H.nl 3 oD 225).nl 3 xP 165).s [2,1,0] rfl rfl) (dA 1 e2) (rt rfl) ⟨_,_,_,xO,xO,lv⟩
def iZ (N:Nat) (d:Con) (c:A6):Option Bool:= xG (ix c.rels d.rel) λe=>xG (eF N c.size e) λf=>some ((!f))
theorem xFd {f h} (r) (p:iZ N f h=some r) {d e} (c) (hN:HN B c) (t:Bo B c (qS 2 vS) d f) (i:Bo B c (Pt 2 xB) e h):CG B c 260 #[d,e] (.st (.bool r) λD=>D):=by
 unfold iZ at p
 revert r
 refine vM func260 [(0,d),(1,e)] hN λr=>?_;refine xI ?_;obtain⟨I,rfl,K,L⟩:=vS.o t;refine jX e2 λ_=>xW 1 rfl (jQ (cI i xB.f0 λ_ j=>kI j λx=>cI i xB.f1 λ_ y=>eZ y λ_ z=>sW e2 (jqb 0 e3 (jB λM A=>?_))));refine lM z A λ_ C=>xJu C λ_ E=>jB λF G=>(jqk (λH=>xAi F G _ aA x (H.a E)) (zA 2 rfl (nD (nH ?_))));exact qT (rt rfl) lv
def sC (d:Int) (c:A8) (e:List Int):Option Bool:= oZ (σ:=Int) (oM (λf h i=>xG (ix e (f:Int)) λj=>xG (ck (h*j)) λp=>xG (ck (i+p)) λt=>some (.go t)) c.left 0 0) λx=>xG (rm x d) λy=>some ((y==c.right))
theorem xMo {c d x} (r) (G:sC c d x=some r) {j e} (f) (hN:HN B f) (U:xL c) (I:Bo B f (qS 2 xJ) j d) (K:Bo B f (Sl 1 xF) e x):CG B f 274 #[xA c,j,e] (.st (.bool r) λD=>D):=by
 unfold sC at G
 revert r
 refine vM func274 [(0,xA c),(1,j),(2,e)] hN λr=>?_;refine xI ?_;obtain⟨p,rfl,y,W⟩:=xJ.o I;refine jX e2 λh=>xM 1 rfl (xK 1 rfl (xZ e2 (jb 0 e3 (jL y λz=>xC 1 rfl ?_))));refine qZ (λA=>.fa (xL A) <| .st [(0,xA c),(4,oK h),(7,xA A)] [bx h [p,xA d.right] 169]) ?_ (λ_ _=>?_)
 ·
  refine zK ?_;refine jl (λC t=>.fa (xL t) <| .st [(13,xA (C:Int)),(0,xA c),(2,e),(4,oK h),(7,xA t),(11,p),(12,xA (d.left.length:Int))] [bx h [p,xA d.right] 169]) ⟨xO,ls⟩ (λ_ t _ L M=>?_) (λC _ _ i N _=>?_)
  ·have O:=oU L;refine xI (xW 1 rfl (kJ O (xN ?_)));exact jf ⟨M,ls⟩
  refine xI (xW 1 rfl (kO (xX i) (xY ?_)));have j1:=dS (Ah i) z;refine qE (jo rfl (jI y N λ_ P=>aP P λ_=>jA 2 rfl (lT (jA 4 rfl (jB λX Q=>(jI K Q λ_ R=>aP R λ_=>jB λY S=>?_))))));refine wT S (jB λZ E=>(bN E (kZ 1 rfl (xU (qG i z) (xC 1 rfl ?_)))));exact jg ⟨(kA E),ls⟩
 refine xMp (jQ (zA 2 rfl (jB λz4 T=>(jqv (λF H w l=>xEk F rfl rfl T) (sW e2 (jqb 0 e3 (zA 2 rfl (nD (nH ?_)))))))));exact qT (rt rfl) lv
def bE (c:List Int) (d:Int) (e:A8):Option Bool:= xG (sC d e c) λf=>some ((!f))
theorem xBa {h i j} (r) (p:bE h i j=some r) {d e f} (c) (hN:HN B c) (t:Bo B c (Sl 1 xF) d h) (x:Bo B c (Pt 1 xF) e i) (y:Bo B c (Pt 2 xJ) f j):CG B c 273 #[d,e,f] (.st (.bool r) λD=>D):=by
 unfold bE at p
 revert r
 refine vM func273 [(0,d),(1,e),(2,f)] hN λr=>?_;refine xI (xM 1 rfl (aP x λz=>jlA y λ_ A=>jo rfl (jB λC E=>(jk (λH=>xMo C E _ aA z (H.a A) (H.a t)) (xS 2 rfl ?_)))));exact qT (rt rfl) lv
def iB (c:rowT) (d:Int):Option Bool:= xG (ix c.numbers d) λe=>some ((e != 0))
theorem xHk {f h} (r) (i:iB f h=some r) {d e} (c) (hN:HN B c) (j:Bo B c (qS 2 zP) d f) (p:Bo B c (Pt 1 xF) e h):CG B c 266 #[d,e] (.st (.bool r) λD=>D):=by
 unfold iB at i
 revert r
 refine vM func266 [(0,d),(1,e)] hN λr=>?_;refine xI ?_;obtain⟨z,A,rfl,t,C⟩:=zP.o j;refine jX e2 λ_=>xM 1 rfl (xZ e2 (jb 0 e3 (aP p λ_=>jB λE x=>(jI t x λ_ y=>aP y λ_=>xS 2 rfl ?_))));exact qT (rt rfl) lv
def zI (c:List rowT) (d:rowT->Option Bool):Option Int:= oZ (σ:=Unit) (oM (λe (f:rowT) s=>match s with | _=>xG (d f) λh=>if h then some (.ret ((e:Int))) else some (.go ())) c 0 ()) λ_=>some ((-1))
theorem jM {i j} (r) (F:zI i j=some r) {f c e} (d) (hN:HN B d) (p:Bo B d (Sl 2 zP) f i) (A:∀ args w,(callFunc c args).run prog w= .ok (.enter c args) w) (C:∀ (t:rowT) (r:Bool),j t=some r->∀ W,Below d.heap.size d W->∀ (x:Vl),Bo (All W) W (qS 2 zP) x t->Calls prog c ([x]++e:List Vl).toArray W (Gt (All W) W [] (.st (.bool r) λD=>D))):CG B d 265 #[f,.func (.func c) #[] e.toArray] (.fa (xL r) <| .st (xA r) λD=>D):=by
 unfold zI at F
 revert r
 refine vM func265 [(0,f),(1,.func (.func c) #[] e.toArray)] hN λr=>?_;refine xI (xK 1 rfl (jo rfl (jL p λy=>xC 1 rfl (qZ (λ_=>.st [] []) ?_ (λ_=>?_)))))
 ·
  refine zK (jl (λz _=>.st [(8,xA (z:Int)),(0,f),(1,.func (.func c) #[] e.toArray),(7,xA (i.length:Int))] []) ls (λ_ _ _ G=>?_) (λz _ _ h I=>?_))
  ·have K:=oU G;refine xI (xW 1 rfl (kJ K (xN ?_)));exact jf ls
  refine xI (xW 1 rfl (kO (xX h) (xY (qE (xM 2 rfl (jA 3 rfl (jI p I λ_ E=>jlA E (λ_ L=>?_))))))));refine jB λM N=>?_;refine jkV A e2 (λH=>C _ M N _ H.bl _ (H.a L)) (kD (xT ?_ ?_))
  ·refine xI (oY 2 rfl (fZ (zR (fH (lD ?_)))));exact qT (rt rfl) ⟨(dS (Ah h) y),lv⟩
  refine qJ (xU (qG h y) (xC 1 rfl ?_));exact jg ls
 refine oO (xS 1 rfl ?_);exact qT (rt rfl) ⟨bC,lv⟩
def mX (c:Int):Option Int:= some c
theorem xBt {c} (r) (f:mX c=some r) (d) (hN:HN B d) (e:xL c):CG B d 229 #[xA c] (.fa (xL r) <| .st (xA r) λD=>D):=by
 unfold mX at f
 revert r
 refine vM func229 [(0,xA c)] hN λr=>?_;refine xI (xM 1 rfl (xS 2 rfl ?_));exact qT (rt rfl) ⟨e,lv⟩
def aS (c:rowT) (d:Int) (e:rowT) (f:Int):Option rowT:= xG (oH c.numbers) λx=>xG (oH c.bys) λy=>oZ (σ:=List Int) (oM (λh (z:Int) i=>xG (ix i (h:Int)) λA=>xG (ck (f*z)) λB=>xG (ck (A+B)) λC=>xG (rm C d) λD=>some (.go (i.set ((h:Int)).toNat D))) e.numbers 0 x) λE=>oZ (σ:=List Int) (oM (λj (F:Int) p=>xG (ix p (j:Int)) λG=>xG (ck (f*F)) λH=>xG (ck (G+H)) λI=>xG (rm I d) λt=>some (.go (p.set ((j:Int)).toNat t))) e.bys 0 y) λK=>some ((rowT.mk E K))
theorem sR {x0 e C h} (r) (hR:aS x0 e C h=some r) {R S} (E) (hN:HN B E) (A0:Bo B E (qS 2 zP) R x0) (a2:xL e) (A2:Bo B E (qS 2 zP) S C) (bi:xL h):CG B E 267 #[R,xA e,S,xA h] (.v λa3=>.v λa4=>.st (.agg #[a3,a4]) λD=>rl 1 xF 2 a3 r.numbers::rl 1 xF 2 a4 r.bys::D):=by
 unfold aS at hR
 revert r
 refine vM func267 [(0,R),(1,xA e),(2,S),(3,xA h)] hN λr=>?_;refine xI ?_;obtain⟨v1,v3,rfl,h1,h2⟩:=zP.o A0;refine jX e2 (λ_=>?_);obtain⟨t,x,rfl,h3,h4⟩:=zP.o A2;refine jX e2 λi=>aK rfl λc=>yD (jB λz c1=>(jB λy c2=>(js [2,0,1] rfl (cZ λw1 X1 N1 a5 g1 G L _=>?_))));have K1:=g1.bk;refine jD ?_;refine jdp (f:=1) (ls:=#[true,true,true,true,true,true,true,true,false]) (.n λd=>.v λT=>.v λj=>.st [(1,xA e),(3,xA h),(6,oK i),(8,oK c),(9,oK d),(20,(.agg #[T,j]))] [bx d [kW,kW] 270,rl 1 xF 2 T z,rl 1 xF 2 j y,bx c [kW,kW] 270,bx i [t,x] 270]) (λd T j=>?_) (λH1=>?_)
 ·
  refine jE 8 rfl ?_;refine zX (hv:=(λH=>oc (H.l 1 rfl).one (oc (H.l 2 rfl).one on))) e3 (qK (iT (cF (xZ e2 (jb 4 e3 (jL h3 λi1=>xC 1 rfl ?_))))));refine qZ (λI=>.v λp=>.st [(1,xA e),(3,xA h),(6,oK i),(8,oK c),(9,oK d)] [bx d [p,j] 270,rl 1 xF 2 p I,rl 1 xF 2 j y,bx c [kW,kW] 270,bx i [t,x] 270]) ?_ (λI p=>?_)
  ·
   refine zK ?_;refine jl (λk1 U=>.v λK=>.st [(24,xA (k1:Int)),(1,xA e),(3,xA h),(6,oK i),(8,oK c),(9,oK d),(22,t),(23,xA (C.numbers.length:Int))] [bx d [K,j] 270,rl 1 xF 2 K U,rl 1 xF 2 j y,bx c [kW,kW] 270,bx i [t,x] 270]) ⟨_,ls⟩ (λ_ U _ q1 K=>?_) (λk1 _ U M y1 K=>?_)
   ·have l1:=oU q1;refine xI (xW 1 rfl (kJ l1 (xN ?_)));exact jf ⟨_,ls⟩
   refine xI (xW 1 rfl (kO (xX M) (xY ?_)));have j1:=dS (Ah M) i1;refine qE (jo rfl (jI h3 y1 λ_ h5=>aP (s:=λH=>(a5.trans (Sm.mono H.sm L.2.2))) h5 λ_=>xC 2 rfl (jB λz3 W=>(jB λz4 c4=>(jB λz5 c5=>(jB λz6 c6=>(jh (λH=>H.mg) ?_)))))));refine cZ λ_ _ _ _ g2 _ aw _=>?_;have K2:=g2.l.bk;refine jD (kB 0 rfl e2 (iG 1 rfl K2 e2 (zF [2] rfl (kB 3 rfl e2 (iG 4 rfl K2 e2 (zF [5] rfl (pQ 6 rfl g2.r.ld W λ_ h6=>aW 7 rfl h6 λ_=>zF [8,9] rfl (jvz 10 rfl (λF H w l=>yB F rfl rfl c4) ?_))))))));refine jvz 11 rfl (λF H w l=>wH F rfl rfl c5) (zF [12] rfl (jvz 13 rfl (λF H w l=>xEk F rfl rfl c6) (jF9 14 rfl (aI aw (jh (λH=>H.um) (jRl 1 W λ_ ax=>kD (jF9 15 rfl (js [1,0,2,3,4] rfl (jh (λH=>H.lw) ?_)))))))));refine jS ax (dL W) (λH=>Eo.int (xGs c6 (kA c5) a2)) rfl (jh (λH=>H.tl) (kD (iT (aH (xU (qG M i1) (xC 1 rfl (js [1,0,2,3,4] rfl ?_)))))));exact jg ⟨_,ls⟩
  refine cF (xZ e2 (jb 4 e3 (jL h4 λi2=>xC 1 rfl ?_)));refine qZ (λs3=>.v λX=>.st [(8,oK c),(9,oK d)] [bx d [p,X] 270,rl 1 xF 2 p I,rl 1 xF 2 X s3,bx c [kW,kW] 270]) ?_ (λ_ X=>?_)
  ·
   refine zK (js [0,1,2,3] rfl ?_);refine jl (λk2 Y=>.v λA=>.st [(48,xA (k2:Int)),(1,xA e),(3,xA h),(8,oK c),(9,oK d),(46,x),(47,xA (C.bys.length:Int))] [bx d [p,A] 270,rl 1 xF 2 p I,rl 1 xF 2 A Y,bx c [kW,kW] 270]) ⟨_,ls⟩ (λ_ Y _ q2 A=>?_) (λk2 _ Y N y2 A=>?_)
   ·have l2:=oU q2;refine xI (xW 1 rfl (kJ l2 (xN ?_)));exact jf ⟨_,ls⟩
   refine xI (xW 1 rfl (kO (xX N) (xY ?_)));have j2:=dS (Ah N) i2;refine qE (jo rfl (jI h4 y2 λ_ h7=>aP (s:=λH=>(a5.trans (Sm.mono H.sm L.2.2))) h7 λ_=>xC 2 rfl (jB λz7 Z=>(jB λz8 c8=>(jB λz9 c9=>(jB λbj a6=>(js [0,2,1,3] rfl ?_)))))));refine jh (λH=>H.mg) (cZ λ_ _ _ _ g3 _ ay _=>?_);have K3:=g3.l.bk;refine jD (kB 0 rfl e2 (iG 1 rfl K3 e2 (zF [2] rfl (kB 3 rfl e2 (iG 4 rfl K3 e2 (zF [5] rfl (pQ 6 rfl g3.r.ld Z λ_ h8=>aW 7 rfl h8 λ_=>zF [8,9] rfl (jvz 10 rfl (λF H w l=>yB F rfl rfl c8) ?_))))))));refine jvz 11 rfl (λF H w l=>wH F rfl rfl c9) (zF [12] rfl (jvz 13 rfl (λF H w l=>xEk F rfl rfl a6) (jF9 14 rfl (aI ay (jh (λH=>H.um) (jRl 1 Z λ_ az=>kD (jF9 15 rfl (js [1,0,2,3] rfl (jh (λH=>H.lw) ?_)))))))));refine jS az (dL Z) (λH=>Eo.int (xGs a6 (kA c9) a2)) rfl (jh (λH=>H.tl) (kD (iT (aH (xU (qG N i2) (xC 1 rfl (js [1,2,0,3] rfl ?_)))))));exact jg ⟨_,ls⟩
  refine oO (aG 0 e3 (js [3,0,1,2] rfl ?_));refine zX (hv:=(λH=>oc (H.l 2 rfl).one (oc (H.l 3 rfl).one on))) e3 (pM (aI L ?_));exact j1m (λH=>H.s [3,4] rfl rfl) (dA 1 e2) ⟨_,_,lv⟩
 refine jdp (f:=2) (ls:=#[true,true,true,true,true,true,false,true,false]) (.n λb4=>.v λO=>.v λP=>.st [(1,xA e),(3,xA h),(6,oK i),(8,oK c),(9,oK b4),(16,O),(19,P)] [bx b4 [kW,kW] 270,rl 1 xF 2 O z,rl 1 xF 2 P y,bx c [kW,kW] 270,bx i [t,x] 270]) (λb4 O P=>?_) (λH2=>?_)
 ·refine jE 6 rfl ?_;refine oV (hone:=(λH=>oc (H.l 1 rfl).one (oc (H.l 2 rfl).one on))) e5 (qK ?_);exact H1 ⟨_,_,_,ls⟩
 refine jdp (f:=3) (ls:=#[true,true,true,true,true,false,false,true,false]) (.n λb5=>.v λQ=>.st [(1,xA e),(3,xA h),(6,oK i),(8,oK c),(9,oK b5),(16,Q),(18,v3)] [bx b5 [kW,kW] 270,rl 1 xF 2 Q z,bx c [kW,kW] 270,bx i [t,x] 270]) (λb5 Q=>?_) (λH3=>?_)
 ·refine jE 5 rfl (jk (λH=>qO y c2 _ aA (H.a (G h2))) λbm=>qK (js [1,2,0,3,4] rfl ?_));exact H2 ⟨_,_,_,ls⟩
 refine kB 0 rfl e2 (iG 1 rfl K1 e2 (kB 3 rfl e2 (iG 4 rfl K1 e2 (eG (λH=>H) 2 7 rfl rfl ?_ ?_))))
 ·
  refine jk (λH=>qO z c1 _ aA (H.a (G h1))) λbn=>qK (eG (λH=>H) 5 7 rfl rfl ?_ ?_)
  ·
   refine jk (λH=>qO y c2 _ aA (H.a (G h2))) λbp=>qK (eG (λH=>H) 6 7 rfl rfl ?_ ?_)
   ·refine oV (hone:=(λH=>oc (H.l 1 rfl).one (oc (H.l 0 rfl).one on))) e5 (qK (jE 7 rfl (aK rfl λb6=>qK (js [0,2,1,3,4] rfl ?_))));exact H1 ⟨_,_,_,ls⟩
   refine aK rfl λb7=>qK (js [0,2,1,3,4] rfl ?_);exact H2 ⟨_,_,_,ls⟩
  refine aK rfl λb8=>qK ?_;exact H3 ⟨_,_,ls⟩
 refine aK rfl λb9=>qK (jE 2 rfl (jk (λH=>qO z c1 _ aA (H.a (G h1))) λbr=>qK (js [1,0,2,3] rfl ?_)));exact H3 ⟨_,_,ls⟩
def iC (c:rowT) (d f:Int):Option rowT:= xG (ck (f - 1)) λh=>xG (ck (h+d)) λi=>xG (aS (rowT.mk c.numbers c.bys) d (rowT.mk c.numbers c.bys) i) λe=>some ((rowT.mk e.numbers e.bys))
theorem yI {j c d} (r) (z:iC j c d=some r) {e} (f) (hN:HN B f) (A:Bo B f (qS 2 zP) e j) (y:xL c) (G:xL d):CG B f 228 #[e,xA c,xA d] (.v λh=>.v λi=>.st (.agg #[h,i]) λD=>rl 1 xF 2 h r.numbers::rl 1 xF 2 i r.bys::D):=by
 unfold iC at z
 revert r
 refine vM func228 [(0,e),(1,xA c),(2,xA d)] hN λr=>?_;refine xI ?_;obtain⟨I,K,rfl,p,t⟩:=zP.o A;refine jX e2 λ_=>aK rfl λ_=>qW (aG 1 e3 (jo rfl (aG 1 e3 (jo rfl (jB λL C=>(gM C (jo rfl (jB λM x=>?_))))))));refine bN x (jB λE F=>(jk (λH=>sR E F _ aA (zP.m (H.a p) (H.a t)) y (zP.m (H.a p) (H.a t)) (kA x)) λN O=>js [2,0,1,3] rfl ?_));refine zX (hv:=(λH=>oc (H.l 1 rfl).one (oc (H.l 2 rfl).one on))) e3 (pM ?_);exact j1m (λH=>H.s [1,2] rfl rfl) (dA 0 e2) ⟨_,_,lv⟩
end Go.Proofs.YtnjlbbfcngjhmaaGreat
