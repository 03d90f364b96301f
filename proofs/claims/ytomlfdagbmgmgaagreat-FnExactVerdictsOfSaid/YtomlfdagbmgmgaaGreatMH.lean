import Derived.Test.YtomlfdagbmgmgaaGreatP5
namespace Go.Proofs.YtomlfdagbmgmgaaGreat
set_option linter.unusedVariables false
set_option linter.unusedSimpArgs false
section
open Go.Proofs.Tryz
set_option maxHeartbeats 1000000
set_option maxRecDepth 100000
open Go.RowKit
variable {B:Nat->Prop} {N:Nat}
def vO (c d:Int):Option Int:= qD (σ:=Int) (qU (λi e=>xH (ck (e*c)) λf=>some (.go f)) d.toNat 0 1) λh=>some h
theorem kC {d e} {j} (hN:HN B j) (A:xM d) (h:xM e):∀ r,vO d e=some r->CG B j 205 #[xB d,xB e] (sI r):=by
 refine vW func205 [(0,xB d),(1,xB e)] hN λr=>?_;refine xK rfl (xI rfl (oD 2 rfl (vA (λp=>.fa (xM p) <| .st [(5,xB p)] []) ?_ (λ_ x=>?_))))
 ·
  refine zH ?_;refine jc (λt f=>.fa (xM f) <| .st [(7,xB (t:Int)),(0,xB d),(5,xB f),(6,xB e)] []) ⟨zD,ls⟩ (λ_ f _ c y=>?_) (λ_ t _ c _=>?_)
  ·have z:=vJ c;refine xN (xR rfl (zX z (xP ?_)));exact jf ⟨y,ls⟩
  refine xN (xR rfl (kA (qW c) (oJ ?_)));have j1:=dL c h;refine yP (jA 2 rfl (jB λC i=>(wT i (zL 1 rfl (oE (vZ c h) (xA rfl ?_))))));exact jg ⟨(zI i),ls⟩
 refine oQ (qZ 2 rfl ?_);exact qJ ⟨x,lv⟩
def qX (N:Nat) (f h i:Int):Option (List Int):= xH (nJ (0:Int) h) λj=>xH (ck (h - 1)) λp=>qD (σ:=Int×Int×(List Int)) (lF (λs=>match s with | (e,c,d)=>if (decide (0<=c)) then xH (rm e f) λt=>xH (ix d c) λA=>xH (dv e f) λx=>xH (ck (c - 1)) λy=>some (.go (x,y,(d.set (c).toNat t))) else some (.brk (e,c,d))) N (i,p,j)) λ(B,C,z)=>some z
theorem iM {c d e} {y} (hN:HN B y) (L:xM c) (S:xM d) (M:xM e):∀ r,qX N c d e=some r->CG B y 206 #[xB c,xB d,xB e] (.v λp=>.st (p) λD=>rl 1 xF 2 p r::D):=by
 refine vW func206 [(0,xB c),(1,xB d),(2,xB e)] hN λr=>?_;refine xK rfl (jo rfl (jB λT P=>?_));refine jRM (R:=xF) (λw=>⟨rfl,kS,rfl⟩) P λU=>xI rfl (jo rfl (jB λW t=>(fR t (xA rfl (vA (λ(z,A,C)=>.v λf=>.fa (xM z) <| .fa (xM A) <| .st [(7,f)] [rl 1 xF 2 f C]) ?_ (λ(z,A,C) f _ _=>?_))))))
 ·
  refine zH ?_;refine jw (λ(h,i,x)=>.v λj=>.fa (xM h) <| .fa (xM i) <| .st [(0,xB c),(2,xB h),(7,j),(8,xB i)] [rl 1 xF 2 j x]) ⟨_,M,(zI t),ls⟩ (λ_ (h,i,x) j E Q=>?_);refine xV (oD 2 rfl (xW ?_ ?_))
  ·refine mB (jA 4 rfl (jB λX F=>(xOs F (jB λY G=>(jRl 0 G λ_ O=>jh (λH=>H.lw) (jS O (cI G) (λH=>Eo.int (xHh F E L)) rfl (jh (λH=>H.tl) (eR (jA 2 rfl (jB λZ I=>(xSe I (zL 1 rfl ?_))))))))))));refine jo rfl (jB λz6 K=>(fR K (xA rfl ?_)));exact jg ⟨_,(oDd I),(zI K),ls⟩
  refine mK (jbk (wI ?_));exact jf ⟨_,E,Q,ls⟩
 refine oQ (qZ 2 rfl ?_);exact j1 (rt rfl) ⟨_,lv⟩
def yG (N:Nat) (d c:Int) (e:(List Int)->Option Int):Option Op:= xH (vO d c) λf=>qD (σ:=List Int) (qU (λh i=>xH (qX N d c (h:Int)) λj=>xH (e j) λp=>xH (ap i ([p])) λt=>some (.go t)) f.toNat 0 []) λx=>some ((Op.mk c x))
theorem xIj {f c F} {d h} {i} (hN:HN B i) (z:xM f) (t:xM c) (O:∀ args w,(callFunc d args).run prog w= .ok (.enter d args) w) (P:∀ (G:List Int) (r:Int),F G=some r->∀ W,Below i.heap.size i W->∀ (I:Vl),Bo (All W) W (Sl 1 xF) I G->Calls prog d ([I]++h:List Vl).toArray W (Gt (All W) W [] (sI r))):∀ r,yG N f c F=some r->CG B i 150 #[xB f,xB c,.func (.func d) #[] h.toArray] (.v λA=>.fa (xM r.arity) <| .st (.agg #[xB r.arity,A]) λD=>rl 1 xF 2 A r.table::D):=by
 refine vW func150 [(0,xB f),(1,xB c),(2,.func (.func d) #[] h.toArray)] hN λr=>?_;refine aM rfl λj=>qS (jo rfl (qC e5 (aM rfl λp=>kG e3 (cY (jA 2 rfl (jB λK R=>(jk (λH=>kC aA z t K R) λC=>xA rfl ?_)))))));refine vA (λS=>.v λx=>.st [(6,oU j),(7,oU p)] [rl 1 xF 2 x S,bx p [xB c,x] 104,bx j [xB 0,aB] 104]) ?_ (λ_ x=>?_)
 ·
  refine zH (jh (λH=>H.nl 1 xF 2) ?_);refine jc (λL M=>.v λy=>.st [(14,xB (L:Int)),(0,xB f),(1,xB c),(2,.func (.func d) #[] h.toArray),(6,oU j),(7,oU p),(13,xB K)] [rl 1 xF 2 y M,bx p [xB c,y] 104,bx j [xB 0,aB] 104]) ⟨_,ls⟩ (λ_ M _ e y=>?_) (λ_ L _ e _=>?_)
  ·have T:=vJ e;refine xN (xR rfl (zX T (xP ?_)));exact jf ⟨_,ls⟩
  refine xN (xR rfl (kA (qW e) (oJ (qH (oD 2 rfl (jB λU X=>(jB λY Z=>(jB λz4 c4=>(js [1,0,2] rfl (cM λ_ _ _ _ g1 _ E _=>(jD (kJ 0 rfl e2 ?_))))))))))));refine gH 1 rfl g1.bk e2 (zG [2,3,4,5] rfl (jE 6 rfl (jk (λH=>iM aA z t (dL e C) U X) λ_=>qT (jE 7 rfl ?_))));refine jkV O e2 (λH=>P _ Y Z _ (E.1 H (Ns.all ⟨n0,⟨n0,⟨n0,trivial⟩⟩⟩)).bl _ (H.l 0 rfl)) λQ=>qT (jE 8 rfl (iX (λH=>Eo.int Q) λ_=>qT (jF9 9 rfl (js [2,0,1,3] rfl (jPL c4 λv3=>aI (jF9 10 rfl (oH e2 (aI (jF9 11 rfl (kY E (jW (hv:=(λH=>(H.l 1 rfl).one)) e3 ?_)))))))))));refine aI (gV (aK (oE (vZ e C) (xA rfl (js [1,0,3] rfl ?_)))));exact jg ⟨_,ls⟩
 refine oQ (aH 1 e3 (js [2,0,1] rfl ?_));refine kG (hv:=(λH=>oc rfl (oc (H.l 1 rfl).one on))) e3 (lU ?_);exact j1m (λH=>H.s [1] rfl rfl) (cN 0 e2) ⟨_,t,lv⟩
def cK (N:Nat) (d e f:Int):Option Op:= xH (yG N d e (λh=>sH h f)) λc=>some ((Op.mk c.arity c.table))
theorem xAl {c d e} {i} (hN:HN B i) (j:xM c) (p:xM d) (t:xM e):∀ r,cK N c d e=some r->CG B i 106 #[xB c,xB d,xB e] (.v λf=>.fa (xM r.arity) <| .st (.agg #[xB r.arity,f]) λD=>rl 1 xF 2 f r.table::D):=by
 refine vW func106 [(0,xB c),(1,xB d),(2,xB e)] hN λr=>?_;refine jX e2 λ_=>aM rfl λ_=>qS (jA 2 rfl (cU e2 (jB λx y=>(jk (λH=>xIj aA j p call151 (λE r h W z F f0=>xGf aA f0 ((c1I (H.g 1 rfl).bk t).w z) r h) x y) λC A=>js [1,0,2] rfl ?_))));refine kG (hv:=(λH=>oc rfl (oc (H.l 1 rfl).one on))) e3 (lU ?_);exact j1m (λH=>H.s [1] rfl rfl) (cN 0 e2) ⟨_,A,lv⟩
def fG (c:Int) (d:List Int):Option Int:= qD (σ:=Int) (oM (λp e f=>xH (ck (f*c)) λh=>xH (ck (h+e)) λi=>some (.go i)) d 0 0) λj=>some j
theorem pH {c f} {d} {h} (hN:HN B h) (H:xM c) (j:Bo B h (Sl 1 xF) d f):∀ r,fG c f=some r->CG B h 209 #[xB c,d] (sI r):=by
 refine vW func209 [(0,xB c),(1,d)] hN λr=>?_;refine xK rfl (xI rfl (jo rfl (jL j λp=>xA rfl (vA (λt=>.fa (xM t) <| .st [(5,xB t)] []) ?_ (λ_ z=>?_)))))
 ·
  refine zH ?_;refine jl (λx i=>.fa (xM i) <| .st [(10,xB (x:Int)),(0,xB c),(5,xB i),(8,d),(9,xB (f.length:Int))] []) ⟨xU,ls⟩ (λ_ i _ A C=>?_) (λx _ _ e D _=>?_)
  ·have E:=oO A;refine xN (xR rfl (zX E (xP ?_)));exact jf ⟨C,ls⟩
  refine xN (xR rfl (kA (xZ e) (oJ ?_)));have j1:=bV (Ae e) p;refine qH (jI j D λ_ F=>aJ F λ_=>jo rfl (eR (jA 2 rfl (jB λI G=>(wT G (jo rfl (jB λK y=>(kE y (zL 1 rfl (oE (qE e p) (jo rfl ?_)))))))))));refine aI ?_;exact jg ⟨(zI y),ls⟩
 refine oQ (qZ 2 rfl ?_);exact qJ ⟨z,lv⟩
def yI (h:Int) (i:Op) (d:List (List Int)):Option (List Int):= xH (ix d 0) λj=>xH (nJ (0:Int) (j.length:Int)) λe=>qD (σ:=List Int) (oM (λc (D:Int) f=>qD (σ:=Int) (oM (λE (p:(List Int)) t=>xH (ck (t*h)) λx=>xH (ix p (c:Int)) λy=>xH (ck (x+y)) λz=>some (.go z)) d 0 0) λA=>xH (ix i.table A) λB=>xH (ix f (c:Int)) λF=>some (.go (f.set ((c:Int)).toNat B))) e 0 e) λC=>some C
theorem xRj {d i y} {z e} {p} (hN:HN B p) (ae:xM d) (T:Bo B p (qR 2 vX) z i) (A:Bo B p (Sl 1 (zV 1 xF)) e y):∀ r,yI d i y=some r->CG B p 264 #[xB d,z,e] (.v λI=>.st (I) λD=>rl 1 xF 2 I r::D):=by
 refine vW func264 [(0,xB d),(1,z),(2,e)] hN λr=>?_;obtain⟨C,rfl,i1,U⟩:=vX.o T;refine jX e2 λf=>xK rfl (jo rfl (jB λz1 Q=>(jI A Q λ_ W=>aT W λ_ X=>jL X λ_=>jB λE Y=>?_)));refine jRM (R:=xF) (λw=>⟨rfl,kS,rfl⟩) Y λv4=>xI rfl (jo rfl (nO (λH=>H.l 0 rfl) λK=>xA rfl (vA (λZ=>.v λF=>.st [(7,F)] [rl 1 xF 2 F Z]) ?_ (λ_ F=>?_))))
 ·
  refine zH ?_;refine jl (λh j=>.v λc=>.st [(19,xB (h:Int)),(0,xB d),(2,e),(4,oU f),(7,c),(18,xB (E.length:Int))] [rl 1 xF 2 c j,bx f [xB i.arity,C] 104]) ⟨_,ls⟩ (λ_ j _ q1 c=>?_) (λh _ j t _ c=>?_)
  ·have l1:=oO q1;refine xN (xR rfl (zX l1 (xP (js [0] rfl ?_))));exact jf ⟨_,ls⟩
  refine xN (xR rfl (kA (xZ t) (oJ ?_)));have j2:=bV (Ae t) K;refine qH (kW 2 rfl (xI rfl (jo rfl (jL A λL=>xA rfl ?_))));refine vA (λM=>.fa (xM M) <| .st [(0,xB d),(2,e),(4,oU f),(7,c),(8,xB (h:Int)),(9,xB M),(18,xB (E.length:Int)),(19,xB (h:Int))] [rl 1 xF 2 c j,bx f [xB i.arity,C] 104]) ?_ (λ_ _=>?_)
  ·
   refine zH ?_;refine jl (λN G=>.fa (xM G) <| .st [(24,xB (N:Int)),(0,xB d),(2,e),(4,oU f),(7,c),(8,xB (h:Int)),(9,xB G),(18,xB (E.length:Int)),(19,xB (h:Int)),(22,e),(23,xB (y.length:Int))] [rl 1 xF 2 c j,bx f [xB i.arity,C] 104]) ⟨xU,ls⟩ (λ_ G _ q2 i4=>?_) (λN _ _ x y1 _=>?_)
   ·have l2:=oO q2;refine xN (xR rfl (zX l2 (xP ?_)));exact jf ⟨i4,ls⟩
   refine xN (xR rfl (kA (xZ x) (oJ ?_)));have j3:=bV (Ae x) L;refine qH (jI A y1 λ_ h4=>aT h4 λ_ h5=>jo rfl (eR (jA 2 rfl (jB λz3 c2=>(wT c2 (jA 2 rfl (jB λz4 c3=>(jI h5 c3 λ_ h6=>aJ h6 λ_=>jB λz5 O=>(kE O (jo rfl ?_))))))))));refine dI (oE (qE x L) (xA rfl ?_));exact jg ⟨(zI O),ls⟩
  refine xNl (jA 2 rfl (oH e2 (jb 1 e3 (jo rfl (jB λz6 c5=>(jI U c5 λ_ h7=>aJ h7 λi5=>jB λz7 P=>(jRl 0 P λ_ S=>jh (λH=>H.lw) (jS S (cI P) (λH=>Eo.int i5) rfl (jh (λH=>H.tl) (dI (oE (qE t K) ?_)))))))))));refine xA rfl ?_;exact jg ⟨_,ls⟩
 refine oQ (qZ 2 rfl ?_);exact j1 (rt rfl) ⟨_,lv⟩
def nB (N:Nat) (d:Int) (e:Op) (c:Rel):Option ((List (List Int))×(List Int)):= xH (vO d c.arity) λh=>if ((c.tuples.length:Int)==h) then some ([],[]) else xH (nJ (false:Bool) h) λy=>qD (σ:=List Bool) (oM (λK (z:(List Int)) i=>xH (fG d z) λj=>xH (ix i j) λL=>some (.go (i.set (j).toNat true))) c.tuples 0 y) λA=>xH (vO (c.tuples.length:Int) e.arity) λB=>qD (σ:=Unit) (qU (λC s=>match s with | _=>xH (qX N (c.tuples.length:Int) e.arity (C:Int)) λD=>qD (σ:=List (List Int)) (oM (λM (E:Int) F=>xH (ix c.tuples E) λG=>xH (ap F ([G])) λH=>some (.go H)) D 0 []) λp=>xH (yI d (Op.mk e.arity e.table) p) λf=>xH (fG d f) λt=>xH (ix A t) λx=>if (!x) then xH (nev f) λI=>some (.ret (p,f)) else some (.go ())) B.toNat 0 ()) λ_=>some ([],[])
theorem xMr {i p d} {Q S} {E} (hN:HN B E) (x:xM i) (A1:Bo B E (qR 2 vX) Q p) (A2:Bo B E (qR 2 oR) S d):∀ r,nB N i p d=some r->CG B E 227 #[xB i,Q,S] (.v λY=>.v λL=>.fa ((r.2=[]->L= .slice none 0 0)) <| .st (.tuple #[Y,L]) λD=>rw B 1 (zV 1 xF) 53 Y r.1::rl 1 xF 2 L r.2::D):=by
 refine vW func227 [(0,xB i),(1,Q),(2,S)] hN λr=>?_;obtain⟨z,rfl,T,h1⟩:=vX.o A1;refine jX e2 (λe=>?_);obtain⟨t,rfl,i2,F⟩:=oR.o A2;refine jX e2 λf=>kW 2 rfl (oH e2 (jb 0 e3 (jL F λi3=>xI rfl (jA 2 rfl (oH e2 (jb 0 e3 (jB λz1 c1=>(jk (λH=>kC aA x i2 z1 c1) λad=>xA rfl ?_))))))));refine xW ?_ ?_
 ·refine xN (pC 2 rfl (jh (λH=>H.nl 1 (zV 1 xF) 53) (jh (λH=>H.nl 1 xF 2) (js [1,0,2,3] rfl (jh (λH=>H.lw) (jh (λH=>H.wk) (js [0,1] rfl ?_)))))));exact j2 (rt rfl) (rt rfl) ⟨_,_,(λ_=>rfl),lv⟩
 refine qG (jo rfl (oH e2 (jb 0 e3 (jk (λH=>kC aA x i2 z1 c1) λad=>jB λz2 c2=>?_))));refine jRM (R:=aF) (λw=>⟨rfl,rfl⟩) c2 λv4=>xI rfl (oH e2 (jb 1 e3 (jL F λi4=>xA rfl ?_)));refine vA (λA=>.v λj=>.st [(0,xB i),(4,oU e),(5,oU f),(8,xB (d.tuples.length:Int)),(9,j)] [rl 1 aF 4 j A,bx f [xB d.arity,t] 99,bx e [xB p.arity,z] 104]) ?_ (λA j=>?_)
 ·
  refine zH ?_;refine jl (λk1 U=>.v λG=>.st [(34,xB (k1:Int)),(0,xB i),(4,oU e),(5,oU f),(8,xB (d.tuples.length:Int)),(9,G),(32,t),(33,xB (d.tuples.length:Int))] [rl 1 aF 4 G U,bx f [xB d.arity,t] 99,bx e [xB p.arity,z] 104]) ⟨_,ls⟩ (λ_ U _ q1 G=>?_) (λk1 _ U M y1 G=>?_)
  ·have l1:=oO q1;refine xN (xR rfl (zX l1 (xP ?_)));exact jf ⟨_,ls⟩
  refine xN (xR rfl (kA (xZ M) (oJ ?_)));have j1:=bV (Ae M) i4;refine qH (jI F y1 λ_ h3=>aT h3 λ_ h4=>jo rfl (eR (jA 3 rfl (jB λz3 c3=>(jk (λH=>pH aA x (H.a h4) z3 c3) λbe=>jB λz4 c4=>(jRl 0 c4 λ_ ae=>jh (λH=>H.lw) (jS ae (cI c4) (λH=>Eo.bool) rfl (jh (λH=>H.tl) (dI (oE (qE M i4) ?_))))))))));refine xA rfl ?_;exact jg ⟨_,ls⟩
 refine bX (jo rfl (oH e2 (jb 2 e3 (jB λI c5=>(jk (λH=>kC aA i3 T I c5) λZ=>xA rfl (vA (λ_=>.st [] []) ?_ (λ_=>?_)))))))
 ·
  refine zH ?_;refine jc (λK _=>.st [(48,xB (K:Int)),(0,xB i),(4,oU e),(5,oU f),(8,xB (d.tuples.length:Int)),(9,j),(47,xB I)] [rl 1 aF 4 j A,bx f [xB d.arity,t] 99,bx e [xB p.arity,z] 104]) ls (λ_ _ _ y=>?_) (λ_ K _ y=>?_)
  ·have l2:=vJ y;exact xN (xR rfl (zX l2 (xP (js [] rfl (jf ls)))))
  refine xN (xR rfl (kA (qW y) (oJ (qH (kW 2 rfl (jR0 (zV 1 xF) λv7=>xI rfl (jo rfl (oH e2 (jb 3 e3 (jo rfl ?_))))))))));refine jB λW c6=>(jk (λH=>iM aA i3 T (dL y Z) W c6) λv8=>nO (λH=>H.l 0 rfl) λi5=>xA rfl ?_);refine vA (λs3=>.v λX=>.st [(0,xB i),(4,oU e),(5,oU f),(8,xB (d.tuples.length:Int)),(9,j),(13,X),(47,xB I),(48,xB (K:Int))] [rw B 1 (zV 1 xF) 53 X s3,rl 1 aF 4 j A,bx f [xB d.arity,t] 99,bx e [xB p.arity,z] 104]) ?_ (λ_ X=>?_)
  ·
   refine zH (js [1,0,2,3,4] rfl (jh (λH=>H.lw) (jh (λH=>H.wk) (js [1,0,2,3,4] rfl ?_))));refine jl (λk3 s4=>.v λO=>.st [(58,xB (k3:Int)),(0,xB i),(4,oU e),(5,oU f),(8,xB (d.tuples.length:Int)),(9,j),(13,O),(47,xB I),(48,xB (K:Int)),(56,v8),(57,xB (W.length:Int))] [rl 1 xF 2 v8 W,rw B 1 (zV 1 xF) 53 O s4,rl 1 aF 4 j A,bx f [xB d.arity,t] 99,bx e [xB p.arity,z] 104]) ⟨_,ls⟩ (λ_ s4 _ q2 O=>?_) (λk3 _ _ P y2 _=>?_)
   ·have l3:=oO q2;refine xN (xR rfl (zX l3 (xP (js [1,2,3,4] rfl ?_))));exact jf ⟨_,ls⟩
   refine xN (xR rfl (kA (xZ P) (oJ ?_)));have j3:=bV (Ae P) i5;refine qH (cM λ_ _ _ a0 g1 _ C _=>(jI g1.ld y2 λ_ h5=>aJ h5 λ_=>jo rfl (eR (jo rfl (oH e2 (jb 2 e3 (jo rfl (jB λz7 c7=>(jI F c7 λ_ h6=>aT (s:=λH=>(a0.trans (Sm.mono H.sm C.2.2))) h6 λ_ h7=>jR1 (N1:=B) (λc h=>(C.2.2 c h)) (λH=>Eo.sl (Bo.to h7 (a0.trans (Sm.mono H.sm C.2.2)))) λ_=>jB λz8 c8=>?_)))))))));refine js [1,0,2,3,4] rfl (jP c8 λbf=>zL 1 rfl (oE (qE P i5) (xA rfl (kY C ?_))));exact jg ⟨_,ls⟩
  refine oQ (jo rfl (aH 3 e3 (jo rfl (jB λz9 c9=>?_))));refine jk (λH=>xRj aA x (vX.m T (H.a h1)) (H.r 0 rfl) z9 c9) λbg=>xK rfl (jA 3 rfl (jB λaf ag=>(jk (λH=>pH aA x (H.l 0 rfl) af ag) λbh=>jB λbj ah=>(js [2,0,1,3,4] rfl (cM λ_ _ _ _ g2 _ a1 _=>(jI g2.ld ah λ_ h8=>jlB h8 (xA rfl (xW ?_ ?_))))))))
  ·refine xN (qZ 4 rfl (jB λbm ai=>(xFw (dB (zC (cV (eT (kY a1 (js [2,1] rfl ?_)))))))));exact j2 (rt rfl) (rt rfl) ⟨_,_,(oKj ai),lv⟩
  exact qM (oE (vZ y Z) (xA rfl (js [2,3] rfl (kY a1 (jg ls)))))
 refine oQ (qZ 2 rfl (jh (λH=>H.nl 1 (zV 1 xF) 53) (jh (λH=>H.nl 1 xF 2) (js [1,0] rfl (jh (λH=>H.lw) (jh (λH=>H.wk) ?_))))));exact j2 (rt rfl) (rt rfl) ⟨_,_,(λ_=>rfl),lv⟩
def eM (N:Nat) (e:Int) (c:Op) (d:Rel):Option Bool:= xH (nB N e (Op.mk c.arity c.table) (Rel.mk d.arity d.tuples)) λf=>some f.2.isEmpty
theorem xFf {c h i} {e f} {d} (hN:HN B d) (p:xM c) (t:Bo B d (qR 2 vX) e h) (x:Bo B d (qR 2 oR) f i):∀ r,eM N c h i=some r->CG B d 160 #[xB c,e,f] (sB r):=by
 refine vW func160 [(0,xB c),(1,e),(2,f)] hN λr=>?_;obtain⟨G,rfl,y,z⟩:=vX.o t;refine jX e2 (λ_=>?_);obtain⟨F,rfl,A,C⟩:=oR.o x;refine jX e2 λ_=>xK rfl (jo rfl (aH 1 e3 (aH 0 e3 (jB λD E=>?_))));exact jk (λH=>xMr H.hN p (vX.m y (H.u z)) (oR.m A (H.u C)) D E) λ_ _ j=>kW 5 rfl (jo rfl (jEz (λH=>H.l 1 rfl) j (xX rfl (qJ lv))))
def gK (N:Nat) (c:Rel) (d:A6) (e:Op):Option Bool:= xH (eM N d.size e (Rel.mk c.arity c.tuples)) λf=>some ((!f))
theorem xBn {h i j} {d e f} {c} (hN:HN B c) (t:Bo B c (qR 2 oR) d h) (x:Bo B c (Pt 2 xC) e i) (y:Bo B c (Pt 2 vX) f j):∀ r,gK N h i j=some r->CG B c 207 #[d,e,f] (sB r):=by
 refine vW func207 [(0,d),(1,e),(2,f)] hN λr=>?_;obtain⟨G,rfl,z,A⟩:=oR.o t;refine jX e2 λ_=>xK rfl (kZ x xC.f0 λ_ p=>aJ p λC=>jlA y λ_ D=>aH 0 e3 (jB λE F=>?_));exact jk (λH=>xFf aA C (H.a D) (oR.m z (H.a A)) E F) (qZ 2 rfl (qJ lv))
def rA (N:Nat) (c:A6) (d:Op):Option Int:= xH (aQ c.rels (λe=>gK N e (A6.mk c.size c.rels) (Op.mk d.arity d.table))) λf=>some f
theorem xEp {f i} {d e} {c} (hN:HN B c) (x:Bo B c (qR 2 xC) d f) (y:Bo B c (qR 2 vX) e i):∀ r,rA N f i=some r->CG B c 152 #[d,e] (sI r):=by
 refine vW func152 [(0,d),(1,e)] hN λr=>?_;obtain⟨G,rfl,z,j⟩:=xC.o x;refine jX e2 (λ_=>?_);obtain⟨F,rfl,A,C⟩:=vX.o y;refine jX e2 λ_=>xK rfl (oH e2 (jb 1 e3 (cU e2 (jB λD E=>(jk (λH=>gW aA (H.a j) call207 (λI r h W p K f0=>xBn aA f0 ((xC.b (H.g 1 rfl).bk z (H.a j)).w p) ((vX.b (H.g 0 rfl).bk A (H.a C)).w p) r h) D E) λt=>xX rfl ?_)))));exact qJ ⟨t,lv⟩
def cP (N:Nat) (c:A6) (d:Op):Option Bool:= xH (rA N (A6.mk c.size c.rels) (Op.mk d.arity d.table)) λe=>some ((decide (e<0)))
theorem wO {f h} {d e} {c} (hN:HN B c) (i:Bo B c (qR 2 xC) d f) (j:Bo B c (qR 2 vX) e h):∀ r,cP N f h=some r->CG B c 107 #[d,e] (sB r):=by
 refine vW func107 [(0,d),(1,e)] hN λr=>?_;obtain⟨E,rfl,p,t⟩:=xC.o i;refine jX e2 (λ_=>?_);obtain⟨C,rfl,x,y⟩:=vX.o j;refine jX e2 λ_=>xK rfl (aH 1 e3 (aH 0 e3 (jB λz A=>?_)));exact jk (λH=>xEp aA (xC.m p (H.a t)) (vX.m x (H.a y)) z A) λD=>qZ 2 rfl (qJ lv)
def jJ (c:Int):Option Bool:= xH (bI c 1 3) λd=>some d
theorem yE {c} {d} (hN:HN B d) (e:xM c):∀ r,jJ c=some r->CG B d 208 #[xB c] (sB r):=by
 refine jiN func208 [(0,xB c)] hN λr=>?_;exact xN (xK rfl (jo rfl (jB λf h=>(jk (λH=>bN aA e zD iV f h) (xX rfl (qJ lv))))))
def lJ (c:A6) (d:Int):Option Int:= xH (zP (A6.mk c.size c.rels)) λe=>if (!e) then some 1 else xH (jJ d) λf=>if (!f) then some 2 else some 0
theorem xEi {f c} {d} {e} (hN:HN B e) (j:Bo B e (qR 2 xC) d f) (h:xM c):∀ r,lJ f c=some r->CG B e 153 #[d,xB c] (sI r):=by
 refine vW func153 [(0,d),(1,xB c)] hN λr=>?_;obtain⟨A,rfl,p,t⟩:=xC.o j;refine jX e2 λ_=>jo rfl (xSh (aH 0 e3 (jB λx i=>?_)));refine jk (λH=>fJ aA (xC.m p (H.a t)) x i) (oD 2 rfl (xW ?_ ?_))
 ·refine xN (bE 1 rfl ?_);exact qJ ⟨zD,lv⟩
 refine xN (jo rfl (jB λy z=>(jk (λH=>yE aA h y z) (oD 2 rfl (xW ?_ ?_)))))
 ·refine xN (bE 1 rfl ?_);exact qJ ⟨pV,lv⟩
 refine wA (xX rfl ?_);exact qJ ⟨xU,lv⟩
def xGn (c:Int):Option Bool:= xH (bI c 1 10) λd=>some d
theorem xSl {c} {d} (hN:HN B d) (e:xM c):∀ r,xGn c=some r->CG B d 154 #[xB c] (sB r):=by
 refine jiN func154 [(0,xB c)] hN λr=>?_;exact xN (xK rfl (jo rfl (jB λf h=>(jk (λH=>bN aA e zD xQg f h) (xX rfl (qJ lv))))))
def pR (d:A6) (e:Int):Option Int:= qD (σ:=Int) (oM (λp (f:Rel) h=>xH (vO (f.tuples.length:Int) e) λc=>xH (ck (h+(if c<4001 then c else 4001))) λi=>some (.go i)) d.rels 0 0) λj=>some j
theorem xHa {e c} {f} {h} (hN:HN B h) (C:Bo B h (qR 2 xC) f e) (A:xM c):∀ r,pR e c=some r->CG B h 155 #[f,xB c] (sI r):=by
 refine vW func155 [(0,f),(1,xB c)] hN λr=>?_;obtain⟨D,rfl,R,j⟩:=xC.o C;refine jX e2 λ_=>xK rfl (xI rfl (oH e2 (jb 0 e3 (jL j λp=>xA rfl (vA (λt=>.fa (xM t) <| .st [(5,xB t)] []) ?_ (λ_ E=>?_))))))
 ·
  refine zH (js [] rfl ?_);refine jl (λx i=>.fa (xM i) <| .st [(11,xB (x:Int)),(1,xB c),(5,xB i),(9,D),(10,xB (e.rels.length:Int))] []) ⟨xU,ls⟩ (λ_ i _ F G=>?_) (λx S _ d I _=>?_)
  ·have K:=oO F;refine xN (xR rfl (zX K (xP ?_)));exact jf ⟨G,ls⟩
  refine xN (xR rfl (kA (xZ d) (oJ ?_)));have j1:=bV (Ae d) p;refine qH (jI j I λ_ L=>jlA L λ_ M=>aM rfl (λ_=>?_));obtain⟨T,rfl,U,y⟩:=oR.o M;refine kG (hv:=(λH=>oc rfl (oc (H.a y).one on))) e3 (eR (jo rfl (oH e2 (jb 0 e3 (jL y λN=>jo rfl (jB λO P=>(jk (λH=>kC aA N A O P) λQ=>oGp e2 (jB λW z=>(kE z (zL 1 rfl (oE (qE d p) ?_)))))))))));refine xA rfl (js [] rfl ?_);exact jg ⟨(zI z),ls⟩
 refine oQ (qZ 2 rfl ?_);exact qJ ⟨E,lv⟩
def kI (c:List Int):Option Int:= qD (σ:=Unit) (if (decide ((c.length:Int)<1)) then none else some (.nx ())) λ_=>xH (ix c 0) λf=>qD (σ:=Int) (qU (λh d=>xH (ix c (1+(h:Int))) λe=>some (.go (if d<e then e else d))) ((c.length:Int) - 1).toNat 0 f) λi=>some i
theorem tJ {j} {d} {h} (hN:HN B h) (e:Bo B h (Sl 1 xF) d j):∀ r,kI j=some r->CG B h 210 #[d] (sI r):=by
 refine vW func210 [(0,d)] hN λr=>?_;refine xI rfl (jo rfl (jL e λ_=>xA rfl (vA (λ_=>.st [(0,d)] []) ?_ (λ_=>?_))))
 ·
  refine xW ?_ ?_
  ·exact jno
  exact xUv (jf ls)
 refine oQ (jo rfl (jB λI y=>(jI e y λ_ z=>aJ z λA=>xI rfl (xA rfl (vA (λp=>.fa (xM p) <| .st [(3,xB p)] []) ?_ (λ_ C=>?_))))))
 ·
  refine zH ?_;refine jc (λt f=>.fa (xM f) <| .st [(4,xB (1+(t:Int))),(0,d),(3,xB f)] []) ⟨A,ls⟩ (λ_ f _ c i=>?_) (λ_ t f c i=>?_)
  ·have D:=yF c;refine xV (jA 2 rfl (jL e λ_=>xA rfl (zX D (xP ?_))));exact jf ⟨i,ls⟩
  refine xV (jA 2 rfl (jL e λx=>xA rfl (kA (tG c) (oJ ?_))));have j1:=xWn c zD x;have E:=xHr c zD x;refine yP (jA 3 rfl (jB λK F=>(jI e F λ_ G=>aJ G λH=>oGe e2 (zL 1 rfl (jo rfl (xDv E (xA rfl ?_)))))));exact jg ⟨(oMk i H),ls⟩
 refine oQ (qZ 2 rfl ?_);exact qJ ⟨C,lv⟩
def pG (N:Nat) (c:A6) (e:Int):Option (Int×(List Rel)×Int×(List (List lookT))×(List (List Bool))×(List Int)×Int×(List Int)):= xH (vO c.size e) λh=>xH (nJ ([]:(List lookT)) h) λI=>xH (qP ([(-1)]) h) λK=>qD (σ:=(List (List lookT))×(List (List Bool))) (oM (λL (d:Rel) s=>match s with | (M,O)=>xH (vO c.size d.arity) λP=>xH (nJ (false:Bool) P) λQ=>qD (σ:=List Bool) (oM (λk2 (R:(List Int)) i=>xH (fG c.size R) λj=>xH (ix i j) λz7=>some (.go (i.set (j).toNat true))) d.tuples 0 Q) λS=>xH (ap O ([S])) λT=>xH (vO (d.tuples.length:Int) e) λU=>qD (σ:=List (List lookT)) (qU (λW p=>xH (qX N (d.tuples.length:Int) e (W:Int)) λx=>qD (σ:=List Int) (qU (λX Y=>qD (σ:=Int) (oM (λk5 Z s7=>xH (ck (s7*c.size)) λy=>xH (ix d.tuples Z) λz=>xH (ix z (X:Int)) λA=>xH (ck (y+A)) λB=>some (.go B)) x 0 0) λs8=>xH (ap Y ([s8])) λC=>some (.go C)) d.arity.toNat 0 []) λt=>xH (kI t) λf=>xH (ix p f) λD=>xH (ap D ([(lookT.mk (L:Int) t)])) λE=>some (.go (p.set (f).toNat E))) U.toNat 0 M) λF=>some (.go (F,T))) c.rels 0 (I,[])) λ(G,H)=>some ((c.size,c.rels,e,G,H,K,0,[]))
theorem xGq {d c} {v0} {w0} (hN:HN B w0) (A0:Bo B w0 (qR 2 xC) v0 d) (I:xM c):∀ r,pG N d c=some r->CG B w0 156 #[v0,xB c] (.n λb3=>.v λb4=>.v λb5=>.v λb6=>.v λb7=>.fa (xM r.1) <| .fa (Bo B w0 (Sl 2 oR) b4 r.2.1) <| .fa (xM r.2.2.1) <| .fa (xM r.2.2.2.2.2.2.1) <| .st (oU b3) λD=>bx b3 [xB r.1,b4,xB r.2.2.1,b5,b6,b7,xB r.2.2.2.2.2.2.1,aB] 255::rl 1 (zV 2 kL) 259 b5 r.2.2.2.1::rl 1 (zV 1 aF) 256 b6 r.2.2.2.2.1::rl 1 xF 2 b7 r.2.2.2.2.2.1::D):=by
 refine vW func156 [(0,v0),(1,xB c)] hN λr=>?_;obtain⟨e,rfl,K,h1⟩:=xC.o A0;refine jX e2 λx=>xR rfl (jB λp W=>(jB λz2 c1=>(jB λA c2=>(cM λw1 X1 N1 sm1 g1 ca b8 _=>?_))));have T:=g1.bk;refine jD ?_;refine jdp (f:=3) (ls:=(bi 16 8191)) (.v λv2=>.v λh=>.st [(1,xB c),(2,oU x),(20,(.agg #[xB d.size,e])),(21,xB c),(26,v2),(32,h)] [rl 1 (bM 2 kL 258) 259 v2 z2,rl 1 xF 2 h A]) (λv2 h=>?_) (λH1=>?_)
 ·
  refine jE 13 rfl ?_;refine oFw [(0,[xB d.size,e]),(2,[xB c]),(3,[v2]),(5,[h])] e5 (λH=>⟨rfl,rfl,Ba rfl,⟨rfl,rfl,Ba rfl,⟨(xHy (H.l 0 rfl).one),rfl,Ba rfl,⟨(xHy (H.l 1 rfl).one),rfl,Ba rfl,trivial⟩⟩⟩⟩) (qT (jE 14 rfl (jX e2 λj=>qT (zG [15] rfl (gV (bX (oH e2 (jbK T e2 (jL h1 λi2=>xA rfl ?_)))))))));refine vA (λ(s1,s2)=>.v λv4=>.v λv5=>.st [(5,oU j)] [rl 1 (zV 1 aF) 256 v5 s2,bx j [xB d.size,e,xB c,v4,v5,h,xB 0,aB] 255,rl 1 (bM 2 kL 258) 259 v4 s1,rl 1 xF 2 h A]) ?_ (λ(s1,s2) v4 v5=>?_)
  ·
   refine zH (jh (λH=>H.nl 1 (zV 1 aF) 256) ?_);refine jl (λi (s3,s4)=>.v λM=>.v λO=>.st [(38,xB (i:Int)),(1,xB c),(2,oU x),(5,oU j),(36,e),(37,xB (d.rels.length:Int))] [rl 1 (zV 1 aF) 256 O s4,bx j [xB d.size,e,xB c,M,O,h,xB 0,aB] 255,rl 1 (bM 2 kL 258) 259 M s3,rl 1 xF 2 h A]) ⟨_,_,ls⟩ (λ_ (s3,s4) _ q1 M O=>?_) (λi t (s3,s4) ad y1 M O=>?_)
   ·have l1:=oO q1;refine xN (xR rfl (zX l1 (xP ?_)));exact jf ⟨_,_,ls⟩
   refine xN (xR rfl (kA (xZ ad) (oJ ?_)));have j2:=bV (Ae ad) i2;refine qH (jo rfl (jI h1 y1 λ_ h2=>jlA (s:=λH=>(sm1.trans (Sm.mono H.sm b8.2.2))) h2 λ_ h3=>aM rfl λy=>jo rfl ?_));obtain⟨P,rfl,i3,h4⟩:=oR.o (ca h3);refine kG (hv:=(λH=>oc rfl (oc (H.a h4).one on))) e3 (qS (oH e2 (jbK T e2 (oH e2 (jb 0 e3 (jB λz4 c3=>(jk (λH=>kC aA K i3 z4 c3) λds=>jB λz5 c4=>?_)))))));refine jRM (R:=aF) (λw=>⟨rfl,rfl⟩) c4 λv9=>xI rfl (oH e2 (jb 1 e3 (jL h4 λi4=>xA rfl ?_)));refine vA (λs5=>.v λb9=>.st [(1,xB c),(2,oU x),(5,oU j),(6,xB (i:Int)),(7,oU y),(8,b9),(36,e),(37,xB (d.rels.length:Int)),(38,xB (i:Int))] [rl 1 aF 4 b9 s5,bx y [xB t.arity,P] 99,rl 1 (zV 1 aF) 256 O s4,bx j [xB d.size,e,xB c,M,O,h,xB 0,aB] 255,rl 1 (bM 2 kL 258) 259 M s3,rl 1 xF 2 h A]) ?_ (λs5 _=>?_)
   ·
    refine zH ?_;refine jl (λk2 s6=>.v λa9=>.st [(52,xB (k2:Int)),(1,xB c),(2,oU x),(5,oU j),(6,xB (i:Int)),(7,oU y),(8,a9),(36,e),(37,xB (d.rels.length:Int)),(38,xB (i:Int)),(50,P),(51,xB (t.tuples.length:Int))] [rl 1 aF 4 a9 s6,bx y [xB t.arity,P] 99,rl 1 (zV 1 aF) 256 O s4,bx j [xB d.size,e,xB c,M,O,h,xB 0,aB] 255,rl 1 (bM 2 kL 258) 259 M s3,rl 1 xF 2 h A]) ⟨_,ls⟩ (λ_ s6 _ q2 a9=>?_) (λk2 _ s6 ae y2 a9=>?_)
    ·have l2:=oO q2;refine xN (xR rfl (zX l2 (xP ?_)));exact jf ⟨_,ls⟩
    refine xN (xR rfl (kA (xZ ae) (oJ ?_)));have j3:=bV (Ae ae) i4;refine qH (jI h4 y2 λ_ h5=>aT h5 λ_ h6=>jo rfl (eR (jo rfl (oH e2 (jbK T e2 (jo rfl (jB λz6 c5=>(jk (λH=>pH aA K (H.a h6) z6 c5) λdu=>jB λz7 c6=>(jRl 0 c6 λ_ cb=>jh (λH=>H.lw) (jS cb (cI c6) (λH=>Eo.bool) rfl ?_))))))))));refine jh (λH=>H.tl) (dI (oE (qE ae i4) (xA rfl ?_)));exact jg ⟨_,ls⟩
   refine oQ (jA 3 rfl (oH e2 (jb 3 e3 (jo rfl (jh (λH=>H.os) (tD (λH=>El.sl) λ_=>jB λX c7=>(js [2,0,1,3,4,5] rfl (jPL c7 λC=>jo rfl (oH e2 (js [2,0,1,3,4] rfl (jW (hv:=(λH=>(H.l 1 rfl).one)) e3 (qS ?_))))))))))));refine oH e2 (jb 2 e3 (jL h4 λi5=>xK rfl (jA 2 rfl (jB λY c8=>(jk (λH=>kC aA i5 I Y c8) λba=>xA rfl ?_)))));refine vA (λs7=>.v λaf=>.st [(1,xB c),(2,oU x),(5,oU j),(36,e),(37,xB (d.rels.length:Int)),(38,xB (i:Int))] [bx j [xB d.size,e,xB c,af,C,h,xB 0,aB] 255,rl 1 (zV 1 aF) 256 C X,rl 1 (bM 2 kL 258) 259 af s7,rl 1 xF 2 h A]) ?_ (λs7 af=>?_)
   ·
    refine zH ?_;refine jc (λZ U=>.v λE=>.st [(79,xB (Z:Int)),(1,xB c),(2,oU x),(5,oU j),(6,xB (i:Int)),(7,oU y),(11,xB (t.tuples.length:Int)),(36,e),(37,xB (d.rels.length:Int)),(38,xB (i:Int)),(78,xB Y)] [bx j [xB d.size,e,xB c,E,C,h,xB 0,aB] 255,rl 1 (zV 1 aF) 256 C X,bx y [xB t.arity,P] 99,rl 1 (bM 2 kL 258) 259 E U,rl 1 xF 2 h A]) ⟨_,ls⟩ (λ_ U _ a0 E=>?_) (λ_ Z U a0 E=>?_)
    ·have l3:=vJ a0;refine xN (xR rfl (zX l3 (xP (js [0,1,3,4] rfl ?_))));exact jf ⟨_,ls⟩
    refine xN (xR rfl (kA (qW a0) (oJ ?_)));have m1:=vZ a0 ba;refine qH (kW 2 rfl (jo rfl (qC e5 (aM rfl λQ=>kG e3 (qS (jA 3 rfl (jB λa1 c9=>(jk (λH=>iM aA i5 I (dL a0 ba) a1 c9) λS=>xI rfl (oH e2 (jb 4 e3 ?_))))))))));refine xA rfl ?_;refine vA (λs9=>.v λbb=>.st [(1,xB c),(2,oU x),(5,oU j),(6,xB (i:Int)),(7,oU y),(11,xB (t.tuples.length:Int)),(13,oU Q),(36,e),(37,xB (d.rels.length:Int)),(38,xB (i:Int)),(78,xB Y),(79,xB (Z:Int))] [rl 1 xF 2 bb s9,bx Q [xB (i:Int),bb] 258,bx j [xB d.size,e,xB c,E,C,h,xB 0,aB] 255,rl 1 (zV 1 aF) 256 C X,bx y [xB t.arity,P] 99,rl 1 (bM 2 kL 258) 259 E U,rl 1 xF 2 h A]) ?_ (λs9 _=>?_)
    ·
     refine zH (jh (λH=>H.nl 1 xF 2) ?_);refine jc (λk4 a2=>.v λL=>.st [(90,xB (k4:Int)),(1,xB c),(2,oU x),(5,oU j),(6,xB (i:Int)),(7,oU y),(11,xB (t.tuples.length:Int)),(13,oU Q),(14,S),(36,e),(37,xB (d.rels.length:Int)),(38,xB (i:Int)),(78,xB Y),(79,xB (Z:Int)),(89,xB t.arity)] [rl 1 xF 2 L a2,rl 1 xF 2 S a1,bx Q [xB (i:Int),L] 258,bx j [xB d.size,e,xB c,E,C,h,xB 0,aB] 255,rl 1 (zV 1 aF) 256 C X,bx y [xB t.arity,P] 99,rl 1 (bM 2 kL 258) 259 E U,rl 1 xF 2 h A]) ⟨_,ls⟩ (λ_ a2 _ a3 L=>?_) (λ_ k4 a2 a3 L=>?_)
     ·have l4:=vJ a3;refine xN (xR rfl (zX l4 (xP (js [0,2,3,4,5,6,7] rfl ?_))));exact jf ⟨_,ls⟩
     refine xN (xR rfl (kA (qW a3) (oJ ?_)));have j4:=dL a3 i3;refine qH (kW 2 rfl (xI rfl (jo rfl (nO (λH=>H.l 1 rfl) λi6=>xA rfl ?_))));refine vA (λag=>.fa (xM ag) <| .st [(1,xB c),(2,oU x),(5,oU j),(6,xB (i:Int)),(7,oU y),(11,xB (t.tuples.length:Int)),(13,oU Q),(14,S),(16,xB ag),(36,e),(37,xB (d.rels.length:Int)),(38,xB (i:Int)),(78,xB Y),(79,xB (Z:Int)),(89,xB t.arity),(90,xB (k4:Int))] [rl 1 xF 2 L a2,rl 1 xF 2 S a1,bx Q [xB (i:Int),L] 258,bx j [xB d.size,e,xB c,E,C,h,xB 0,aB] 255,rl 1 (zV 1 aF) 256 C X,bx y [xB t.arity,P] 99,rl 1 (bM 2 kL 258) 259 E U,rl 1 xF 2 h A]) ?_ (λag i7=>?_)
     ·
      refine zH ?_;refine jl (λk5 ah=>.fa (xM ah) <| .st [(95,xB (k5:Int)),(1,xB c),(2,oU x),(5,oU j),(6,xB (i:Int)),(7,oU y),(11,xB (t.tuples.length:Int)),(13,oU Q),(14,S),(15,xB (k4:Int)),(16,xB ah),(36,e),(37,xB (d.rels.length:Int)),(38,xB (i:Int)),(78,xB Y),(79,xB (Z:Int)),(89,xB t.arity),(90,xB (k4:Int)),(93,S),(94,xB (a1.length:Int))] [rl 1 xF 2 L a2,rl 1 xF 2 S a1,bx Q [xB (i:Int),L] 258,bx j [xB d.size,e,xB c,E,C,h,xB 0,aB] 255,rl 1 (zV 1 aF) 256 C X,bx y [xB t.arity,P] 99,rl 1 (bM 2 kL 258) 259 E U,rl 1 xF 2 h A]) ⟨xU,ls⟩ (λ_ ah _ q3 i8=>?_) (λk5 _ _ ai y3 _=>?_)
      ·have l5:=oO q3;refine xN (xR rfl (zX l5 (xP ?_)));exact jf ⟨i8,ls⟩
      refine xN (xR rfl (kA (xZ ai) (oJ ?_)));have j5:=bV (Ae ai) i6;refine qH (js [1,0,2,3,4,5,6,7] rfl (cM λ_ _ _ bc g2 e1 aj _=>(jI g2.ld y3 λ_ h7=>aJ h7 λ_=>xA rfl (jQ (vY 1 rfl (sQ e2 (jqbK (T.lf e1) e2 (jB λdw cc=>(jqv (λF H w l=>yB F rfl rfl cc) (sQ e2 (jqb 4 e3 ?_)))))))))));refine vY 1 rfl (jB λdx cd=>(gU h4 cd λ_ h8=>eN (s:=λH w l=>(bc.trans (Sm.mono (H.q w l) aj.2.2))) h8 λ_ h9=>vY 1 rfl (jB λdy ce=>(gU h9 ce λ_ cf=>kN (s:=λH w l=>(bc.trans (Sm.mono (H.q w l) aj.2.2))) cf λ_=>jB λdz bd=>(jqv (λF H w l=>wF F rfl rfl bd) (vY 1 rfl (lE (aK (oE (qE ai i6) (jo rfl ?_))))))))));refine aI (kY aj (js [1,0,2,3,4,5,6,7] rfl ?_));exact jg ⟨(zI bd),ls⟩
     refine xNl (oH e2 (jb 2 e3 (jo rfl (iX (λH=>Eo.int i7) λ_=>jB λe0 cg=>(js [1,0,2,3,4,5,6,7,8] rfl (jPL cg λv19=>oH e2 (js [2,0,1,3,4,5,6,7] rfl (jW (hv:=(λH=>(H.l 1 rfl).one)) e3 (dI (oE (vZ a3 i3) (xA rfl ?_)))))))))));refine js [1,2,0,3,4,5,6,7] rfl ?_;exact jg ⟨_,ls⟩
    refine oQ (oH e2 (jb 1 e3 (jB λch ci=>(jk (λH=>tJ aA (H.l 0 rfl) ch ci) λe4=>xA rfl (jB λe6 G=>(jB λe7 ak=>(js [1,2,0,3,4,5,6] rfl (jh (λH=>H.mg) (cM λ_ _ _ _ g3 _ al _=>?_)))))))));have K2:=g3.r.bk;refine jD (zG [0,1] rfl (kJ 2 rfl e2 (gH 3 rfl K2 e2 (zG [4,5,6] rfl (kJ 7 rfl e2 (gH 8 rfl K2 e2 (zG [9] rfl (rQ 12 rfl g3.l.bk e2 (dV (λH=>H) 10 13 rfl rfl ?_ ?_)))))))))
    ·
     refine jRl 3 G λ_ be=>qT (dV (λH=>H) 11 13 rfl rfl ?_ ?_)
     ·refine js [3,0,1,2,4] rfl (xWi be (bD G) λ_=>qT (jE 13 rfl (js [2,0,1,3,4,5] rfl (jh (λH=>kL.w j2 H) (tD (λH=>El.agg) λ_=>qT (jE 14 rfl (js [1,0,2,3,4,5] rfl (jPL ak λ_=>qT (jE 15 rfl (jRl 1 (ixh G) λ_ cj=>qT ?_))))))))));refine jE 16 rfl (js [1,0,2,3,4] rfl (xXy cj (cI (ixh G)) rfl (qT (gV (aK (oE m1 (xA rfl (kY al (jh (λH=>H.um) (js [1,3,4,2,5] rfl ?_))))))))));exact jg ⟨_,ls⟩
     refine jh (λH=>kL.w j2 H) (tD (λH=>El.agg) λ_=>qT (jE 11 rfl (js [3,0,1,2,4] rfl (xWi be (bD G) λ_=>qT (jE 14 rfl (js [0,2,1,3,4,5] rfl (jPL ak λ_=>qT (jE 15 rfl (jRl 1 (ixh G) λ_ cm=>qT (jE 16 rfl ?_))))))))));refine js [1,0,2,3,4] rfl (xXy cm (cI (ixh G)) rfl (qT (gV (aK (oE m1 (xA rfl (kY al (jh (λH=>H.um) (js [1,3,4,2,5] rfl ?_)))))))));exact jg ⟨_,ls⟩
    refine jh (λH=>kL.w j2 H) (tD (λH=>El.agg) λ_=>qT (jE 10 rfl (jRl 3 G λ_ cn=>qT (jE 11 rfl (js [3,0,1,2,4] rfl (xWi cn (bD G) λ_=>qT (jE 14 rfl (js [0,2,1,3,4,5] rfl (jPL ak λ_=>qT (jE 15 rfl ?_))))))))));refine jRl 1 (ixh G) λ_ co=>qT (jE 16 rfl (js [1,0,2,3,4] rfl (xXy co (cI (ixh G)) rfl (qT (gV (aK (oE m1 (xA rfl (kY al (jh (λH=>H.um) (js [1,3,4,2,5] rfl ?_)))))))))));exact jg ⟨_,ls⟩
   refine aK (oE (qE ad i2) (xA rfl (js [1,0,2,3] rfl ?_)));exact jg ⟨_,_,ls⟩
  refine oQ (qZ 2 rfl (js [2,0,1,3] rfl (jh (λH=>Sep.rr H) (kY b8 (js [3,1,2,4] rfl ?_)))));exact j1 (rt rfl) ⟨_,_,_,_,_,K,h1,I,xU,lv⟩
 refine jdp (f:=4) (ls:=(bi 16 4095)) (.v λam=>.v λbf=>.fa (xM p) <| .st [(1,xB c),(2,oU x),(20,(.agg #[xB d.size,e])),(21,xB c),(26,am),(27,bf),(31,xB p)] [rl 1 (bM 2 kL 258) 259 am z2,rl 1 xF 2 bf ([(-1)])]) (λam _ i9=>?_) (λH2=>?_)
 ·refine jE 12 rfl (jk (λH=>aX A c2 _ aA (H.l 1 rfl) i9) λe8=>qT (js [1,0] rfl ?_));exact H1 ⟨_,_,ls⟩
 refine jdp (f:=5) (ls:=(bi 16 4031)) (.v λan=>.fa (xM p) <| .fa (xM p) <| .st [(1,xB c),(2,oU x),(20,(.agg #[xB d.size,e])),(21,xB c),(25,xB p),(27,an),(31,xB p)] [rl 1 xF 2 an ([(-1)])]) (λan _ bg=>?_) (λH3=>?_)
 ·
  refine dV (λH=>H) 6 12 rfl rfl ?_ ?_
  ·refine jRM (R:=(bM 2 kL 258)) (λw=>bM.nil w) c1 λe9=>qT ?_;exact H2 ⟨_,_,bg,ls⟩
  refine jk (λH=>aX A c2 _ aA (H.l 0 rfl) bg) λea=>qT (jE 6 rfl (jRM (R:=(bM 2 kL 258)) (λw=>bM.nil w) c1 λec=>qT (js [0,1] rfl ?_)));exact H1 ⟨_,_,ls⟩
 refine jdp (f:=5) (ls:=(bi 16 2047)) (.v λao=>.v λaq=>.st [(1,xB c),(2,oU x),(20,(.agg #[xB d.size,e])),(21,xB c),(26,ao),(27,aq),(29,xB d.size),(30,xB c)] [rl 1 (bM 2 kL 258) 259 ao z2,rl 1 xF 2 aq ([(-1)])]) (λao aq=>?_) (λH4=>?_)
 ·refine jE 11 rfl (jk (λH=>kC aA K I p W) λz=>qT ?_);exact H2 ⟨_,_,z,ls⟩
 refine jdp (f:=5) (ls:=(bi 16 3967)) (.v λar=>.fa (xM p) <| .st [(1,xB c),(2,oU x),(20,(.agg #[xB d.size,e])),(21,xB c),(26,ar),(31,xB p)] [rl 1 (bM 2 kL 258) 259 ar z2]) (λar cp=>?_) (λH5=>?_)
 ·refine jE 7 rfl (iX (λH=>Eo.int kV) λed=>qT (js [1,0] rfl ?_));exact H2 ⟨_,_,cp,ls⟩
 refine jdp (f:=6) (ls:=(bi 16 1983)) (.v λau=>.fa (xM p) <| .st [(1,xB c),(2,oU x),(20,(.agg #[xB d.size,e])),(21,xB c),(25,xB p),(27,au),(29,xB d.size),(30,xB c)] [rl 1 xF 2 au ([(-1)])]) (λau cq=>?_) (λH6=>?_)
 ·
  refine dV (λH=>H) 6 11 rfl rfl ?_ ?_
  ·refine jRM (R:=(bM 2 kL 258)) (λw=>bM.nil w) c1 λee=>qT ?_;exact H4 ⟨_,_,ls⟩
  refine jk (λH=>kC aA K I p W) λz=>qT ?_;exact H3 ⟨_,cq,z,ls⟩
 refine rQ 0 rfl T e2 (zG [1] rfl (kJ 2 rfl e2 (gH 3 rfl T e2 (zG [4] rfl (kJ 8 rfl e2 (gH 9 rfl T e2 (zG [10] rfl (dV (λH=>H) 5 7 rfl rfl ?_ ?_))))))))
 ·
  refine jk (λH=>kC aA K I p W) λz=>qT (xKp (λH=>H) 6 7 11 rfl rfl rfl ?_ ?_ ?_)
  ·
   refine jRM (R:=(bM 2 kL 258)) (λw=>bM.nil w) c1 λef=>qT (dV (λH=>H) 7 11 rfl rfl ?_ ?_)
   ·refine iX (λH=>Eo.int kV) λeg=>qT (js [1,0] rfl ?_);exact H4 ⟨_,_,ls⟩
   refine jk (λH=>kC aA K I p W) λz=>qT ?_;exact H5 ⟨_,z,ls⟩
  ·refine iX (λH=>Eo.int kV) λeh=>qT ?_;exact H6 ⟨_,z,ls⟩
  refine jk (λH=>kC aA K I p W) λz=>qT (dV (λH=>H) 6 7 rfl rfl ?_ ?_)
  ·refine jRM (R:=(bM 2 kL 258)) (λw=>bM.nil w) c1 λei=>qT ?_;exact H5 ⟨_,z,ls⟩
  refine iX (λH=>Eo.int kV) λej=>qT ?_;exact H3 ⟨_,z,z,ls⟩
 refine iX (λH=>Eo.int kV) λek=>qT (jE 5 rfl (jk (λH=>kC aA K I p W) λz=>qT ?_));exact H6 ⟨_,z,ls⟩
def oV (c:List Int):Option (List Int):= xH (ap ([]) c) λd=>some d
theorem qV {h} {c} {d} (hN:HN B d) (i:Bo B d (Sl 1 xF) c h):∀ r,oV h=some r->CG B d 234 #[c] (.v λe=>.st (e) λD=>rl 1 xF 2 e r::D):=by
 refine vW func234 [(0,c)] hN λr=>?_;refine xI rfl (jo rfl (jEn (λH=>H.a i) λ_ j=>aI (jig (λf=>?_) (λf=>?_))))
 ·refine jt (t':=some ([])) (by rw[j f]<;>rfl) (xN (xT rfl (jh (λH=>H.nl 1 xF 2) ?_)));exact j1 (rt rfl) ⟨_,lv⟩
 refine qG (jR0 xF λ_=>jo rfl (jB λt p=>(jh (λH=>H.lw) (jPf (λH=>H.a i) p λx=>jh (λH=>H.tl) (xX rfl ?_)))));exact j1 (rt rfl) ⟨_,lv⟩
def aW (c:Op) (d:Int) (e:List Int):Option Int:= xH (fG d e) λf=>xH (ix c.table f) λh=>some h
theorem vM {h c i} {e f} {d} (hN:HN B d) (t:Bo B d (qR 2 vX) e h) (j:xM c) (x:Bo B d (Sl 1 xF) f i):∀ r,aW h c i=some r->CG B d 218 #[e,xB c,f] (sI r):=by
 refine vW func218 [(0,e),(1,xB c),(2,f)] hN λr=>?_;obtain⟨E,rfl,F,y⟩:=vX.o t;refine jX e2 λ_=>xR rfl (jQ (sQ e2 (jqb 0 e3 (vY 2 rfl (jB λz p=>(xSk (λH=>pH aA j (H.a x) z p) λ_=>jB λG A=>(gU y A λ_ C=>kN C λD=>vY 1 rfl (lE (lY ?_)))))))));exact qJ ⟨D,lv⟩
def rH (c:List Int) (d:Op) (e:Int):Option Bool:= xH (ix c 0) λf=>xH (qP c d.arity) λh=>xH (aW d e h) λi=>some ((i==f))
theorem xIn {h i j} {d e f} {c} (hN:HN B c) (p:Bo B c (Sl 1 xF) d h) (t:Bo B c (Pt 2 vX) e i) (x:Bo B c (Pt 1 xF) f j):∀ r,rH h i j=some r->CG B c 217 #[d,e,f] (sB r):=by
 refine vW func217 [(0,d),(1,e),(2,f)] hN λr=>?_;refine xR rfl (jB λM y=>(jB λz A=>(jB λC D=>(jD (xFu 0 rfl t λ_ E=>aY 1 rfl x λF=>zG [2] rfl (gR 3 rfl t vX.f0 λ_ G=>aY 4 rfl G λI=>zG [7] rfl (nM 8 rfl p y λ_ K=>aY 9 rfl K (λ_=>?_))))))));exact jE 5 rfl (jk (λH=>aX z A _ aA (H.a p) I) λ_=>qT (jE 6 rfl (jk (λH=>vM aA (H.a E) F (H.l 0 rfl) C D) λL=>qT (zG [10,11] rfl (gV (lY (qJ lv)))))))
def aR (N:Nat) (c d:Int) (e:(List Int)->Option Bool):Option Bool:= xH (vO c d) λf=>qD (σ:=Unit) (qU (λh s=>match s with | _=>xH (qX N c d (h:Int)) λi=>xH (e i) λj=>if (!j) then some (.ret false) else some (.go ())) f.toNat 0 ()) λ_=>some true
theorem mN {e f x} {c h} {i} (hN:HN B i) (j:xM e) (p:xM f) (D:∀ args w,(callFunc c args).run prog w= .ok (.enter c args) w) (E:∀ (y:List Int) (r:Bool),x y=some r->∀ W,Below i.heap.size i W->∀ (z:Vl),Bo (All W) W (Sl 1 xF) z y->Calls prog c ([z]++h:List Vl).toArray W (Gt (All W) W [] (sB r))):∀ r,aR N e f x=some r->CG B i 216 #[xB e,xB f,.func (.func c) #[] h.toArray] (sB r):=by
 refine vW func216 [(0,xB e),(1,xB f),(2,.func (.func c) #[] h.toArray)] hN λr=>?_;refine xI rfl (jA 2 rfl (jB λA F=>(jk (λH=>kC aA j p A F) λt=>xA rfl (vA (λ_=>.st [] []) ?_ (λ_=>?_)))))
 ·
  refine zH (jc (λC _=>.st [(11,xB (C:Int)),(0,xB e),(1,xB f),(2,.func (.func c) #[] h.toArray),(10,xB A)] []) ls (λ_ _ _ d=>?_) (λ_ C _ d=>?_))
  ·have G:=vJ d;exact xN (xR rfl (zX G (xP (jf ls))))
  refine xN (xR rfl (kA (qW d) (oJ (qH (kW 2 rfl (jA 4 rfl (jB λI K=>(jk (λH=>iM aA j p (dL d t) I K) λ_=>jB λL M=>?_))))))));refine jkV D e2 (λH=>E _ L M _ H.bl _ (H.l 0 rfl)) (xA rfl (xW ?_ ?_))
  ·exact xN (qA 1 rfl (dB (zC (cV (eT (qJ lv))))))
  exact qM (oE (vZ d t) (xA rfl (js [] rfl (jg ls))))
 exact oQ (xX rfl (qJ lv))
def eK (c:List Int) (d:Int):Option Int:= qD (σ:=Unit) (oM (λe (f:Int) s=>match s with | _=>if (d==f) then some (.ret ((e:Int))) else some (.go ())) c 0 ()) λ_=>some ((-1))
theorem rZ {f c} {d} {h} (hN:HN B h) (i:Bo B h (Sl 1 xF) d f) (A:xM c):∀ r,eK f c=some r->CG B h 261 #[d,xB c] (sI r):=by
 refine vW func261 [(0,d),(1,xB c)] hN λr=>?_;refine xI rfl (jo rfl (jL i λj=>xA rfl (vA (λ_=>.st [] []) ?_ (λ_=>?_))))
 ·
  refine zH (jl (λp _=>.st [(8,xB (p:Int)),(0,d),(1,xB c),(7,xB (f.length:Int))] []) ls (λ_ _ _ t=>?_) (λp _ _ e x=>?_))
  ·have y:=oO t;exact xN (xR rfl (zX y (xP (jf ls))))
  refine xN (xR rfl (kA (xZ e) (oJ (qH (kW 2 rfl (jA 3 rfl (jI i x λ_ z=>aJ z λ_=>xA rfl (xW ?_ ?_))))))))
  ·refine xN (qA 2 rfl (dB (zC (cV (eT ?_)))));exact qJ ⟨(bV (Ae e) j),lv⟩
  exact qM (oE (qE e j) (xA rfl (jg ls)))
 refine oQ (xX rfl ?_);exact qJ ⟨kV,lv⟩
def zA (c:List Int) (d:Int):Option Bool:= xH (eK c d) λe=>some ((decide (0<=e)))
theorem cB {f c} {d} {e} (hN:HN B e) (i:Bo B e (Sl 1 xF) d f) (h:xM c):∀ r,zA f c=some r->CG B e 220 #[d,xB c] (sB r):=by
 refine jiN func220 [(0,d),(1,xB c)] hN λr=>?_;exact xN (xK rfl (jA 2 rfl (jB λj p=>(jk (λH=>rZ aA (H.a i) h j p) λt=>qZ 2 rfl (qJ lv)))))
def mU (c:List Int) (d:Op) (e:Int):Option Bool:= xH (oV c) λh=>xH (zZ h) λf=>xH (aW d e c) λi=>xH (aW d e f) λj=>some ((i==j))
theorem xCm {h i j} {d e f} {c} (hN:HN B c) (p:Bo B c (Sl 1 xF) d h) (t:Bo B c (Pt 2 vX) e i) (x:Bo B c (Pt 1 xF) f j):∀ r,mU h i j=some r->CG B c 262 #[d,e,f] (sB r):=by
 refine vW func262 [(0,d),(1,e),(2,f)] hN λr=>?_;refine xK rfl (jo rfl (jB λy z=>(jk (λH=>qV aA (H.a p) y z) λ_=>xK rfl (jo rfl (jB λM A=>(oKr A (xAo (jQ (xBk t λ_ C=>kN x (λD=>?_))))))))));exact vY 1 rfl (jB λE F=>(xSk (λH=>vM aA (H.a C) D (H.a p) E F) λ_=>xBk t λ_ G=>kN x λI=>vY 1 rfl (jB λK L=>(xSk (λH=>vM aA (H.a G) I (H.l 0 rfl) K L) λ_=>vY 2 rfl (lE (lY (qJ lv)))))))
def eD (N:Nat) (d:Int) (c:Op):Option Bool:= xH (aR N d c.arity (λf=>mU f (Op.mk c.arity c.table) d)) λe=>some e
theorem tZ {c i} {d} {e} (hN:HN B e) (f:xM c) (x:Bo B e (qR 2 vX) d i):∀ r,eD N c i=some r->CG B e 221 #[xB c,d] (sB r):=by
 refine vW func221 [(0,xB c),(1,d)] hN λr=>?_;refine jX e2 (λ_=>?_);obtain⟨A,rfl,j,y⟩:=vX.o x;exact jX e2 λ_=>xK rfl (jb 1 e3 (oH e2 (jb 0 e3 (cU e2 (jB λt z=>(jk (λH=>mN aA f j call262 (λC r h W p D f0=>xCm aA f0 ((vX.b (H.g 0 rfl).bk j (H.a y)).w p) ((c1I (H.g 1 rfl).bk f).w p) r h) t z) (xX rfl (qJ lv))))))))
end
section
open Go.Proofs.Tryz
set_option maxHeartbeats 1000000
set_option maxRecDepth 100000
open Go.RowKit
variable {B:Nat->Prop} {N:Nat}
def mJ (e:List Int) (c:Op) (d:Int):Option Bool:= xH (ix e 0) λf=>xH (ix e 1) λh=>xH (ix e 2) λi=>xH (aW c d ([f,h])) λj=>xH (aW c d ([j,i])) λp=>xH (aW c d ([h,i])) λt=>xH (aW c d ([f,t])) λx=>some ((p==x))
theorem xIo {x0 h c} {v0 v1 v2} {d} (hN:HN B d) (t:Bo B d (Sl 1 xF) v0 x0) (L:Bo B d (Pt 2 vX) v1 h) (M:Bo B d (Pt 1 xF) v2 c):∀ r,mJ x0 h c=some r->CG B d 222 #[v0,v1,v2] (sB r):=by
 refine vW func222 [(0,v0),(1,v1),(2,v2)] hN λr=>?_;refine xR rfl (jB λi c1=>(jB λj c2=>(jB λe c3=>(jB λp c4=>(jB λN c5=>(jB λz6 c6=>(jB λz7 c7=>(jD (jdp (f:=5) (ls:=(bi 36 2147483647)) (.v λv3=>.v λv4=>.v λv5=>.fa (xM N) <| .fa (Bo B d (qR 2 vX) v3 h) <| .fa (xM c) <| .fa (xM i) <| .fa (Bo B d (qR 2 vX) v4 h) <| .fa (xM c) <| .st [(4,.bool false),(21,xB N),(22,v3),(23,xB c),(26,xB i),(27,v4),(28,xB c),(35,v5)] [rl 1 xF 2 v5 ([j,e])]) (λ_ _ _ _ h1 i1 i2 h2 i3=>?_) (λH1=>?_))))))))))
 ·refine jE 31 rfl (jk (λH=>vM aA (H.a h2) i3 (H.l 0 rfl) z6 c6) λar=>qT (jE 32 rfl ?_));exact jRI [i,z6] (by simp only[Al,Aq,Aw,implies_true,and_true];exact⟨i2,ar⟩) λ_=>qT (jE 33 rfl (jk (λH=>vM aA (H.a h1) i1 (H.l 0 rfl) z7 c7) λiz2=>qT (zG [34,35] rfl (gV (lY (qJ lv))))))
 refine jdp (f:=6) (ls:=(bi 36 2147418111)) (.v λv6=>.v λv7=>.v λv8=>.v λv9=>.v λO=>.fa (Bo B d (qR 2 vX) v6 h) <| .fa (xM c) <| .fa (Bo B d (qR 2 vX) v8 h) <| .fa (xM c) <| .fa (xM i) <| .fa (Bo B d (qR 2 vX) v9 h) <| .fa (xM c) <| .st [(4,.bool false),(5,v6),(6,xB c),(20,v7),(22,v8),(23,xB c),(26,xB i),(27,v9),(28,xB c),(35,O)] [rl 1 xF 2 v7 ([p,e]),rl 1 xF 2 O ([j,e])]) (λ_ _ v8 v9 O h3 i4 h4 i5 i6 h5 i7=>?_) (λH2=>?_)
 ·refine jE 16 rfl (jk (λH=>vM aA (H.a h3) i4 (H.l 0 rfl) N c5) λP=>qT (js [1] rfl ?_));exact H1 ⟨_,_,_,P,h4,i5,i6,h5,i7,ls⟩
 refine jdp (f:=7) (ls:=(bi 36 2147385343)) (.v λQ=>.v λR=>.v λS=>.v λT=>.fa (Bo B d (qR 2 vX) Q h) <| .fa (xM c) <| .fa (xM p) <| .fa (xM e) <| .fa (Bo B d (qR 2 vX) R h) <| .fa (xM c) <| .fa (xM i) <| .fa (Bo B d (qR 2 vX) S h) <| .fa (xM c) <| .st [(4,.bool false),(5,Q),(6,xB c),(16,xB p),(19,xB e),(22,R),(23,xB c),(26,xB i),(27,S),(28,xB c),(35,T)] [rl 1 xF 2 T ([j,e])]) (λQ R S T h6 i8 i9 au h7 av aw h8 ax=>?_) (λH3=>?_)
 ·refine jE 15 rfl ?_;refine jRI [p,e] (by simp only[Al,Aq,Aw,implies_true,and_true];exact⟨i9,au⟩) λv15=>qT ?_;exact H2 ⟨_,_,_,_,_,h6,i8,h7,av,aw,h8,ax,ls⟩
 refine jdp (f:=8) (ls:=(bi 36 2147383295)) (.v λU=>.v λa6=>.v λa7=>.v λW=>.v λX=>.v λY=>.fa (Bo B d (qR 2 vX) U h) <| .fa (xM c) <| .fa (Bo B d (qR 2 vX) a6 h) <| .fa (xM c) <| .fa (xM e) <| .fa (Bo B d (qR 2 vX) W h) <| .fa (xM c) <| .fa (xM i) <| .fa (Bo B d (qR 2 vX) X h) <| .fa (xM c) <| .st [(4,.bool false),(5,U),(6,xB c),(7,a6),(8,xB c),(15,a7),(19,xB e),(22,W),(23,xB c),(26,xB i),(27,X),(28,xB c),(35,Y)] [rl 1 xF 2 a7 ([i,j]),rl 1 xF 2 Y ([j,e])]) (λU _ _ W X Y h9 ay az b0 b1 b2 b3 b4 b5 b6=>?_) (λH4=>?_)
 ·refine jE 11 rfl (jk (λH=>vM aA (H.a az) b0 (H.l 0 rfl) p c4) λI=>qT (js [1] rfl ?_));exact H3 ⟨_,_,_,_,h9,ay,I,b1,b2,b3,b4,b5,b6,ls⟩
 refine xFu 0 rfl L λc8 x=>aY 1 rfl M λy=>xFu 2 rfl L λc9 Z=>aY 3 rfl M λa0=>zG [4] rfl (nM 5 rfl t c1 λ_ b7=>aY 6 rfl b7 λa8=>zG [7] rfl (nM 8 rfl t c2 λ_ b8=>aY 9 rfl b8 λa9=>zG [12] rfl (nM 13 rfl t c3 λ_ b9=>aY 14 rfl b9 λK=>xFu 17 rfl L λca z=>aY 18 rfl M (λA=>?_))));refine zG [19] rfl (nM 20 rfl t c1 λ_ ba=>aY 21 rfl ba λC=>xFu 22 rfl L λcb D=>aY 23 rfl M λE=>zG [24] rfl (nM 25 rfl t c2 λ_ bb=>aY 26 rfl bb λF=>zG [27] rfl (nM 28 rfl t c3 λ_ bc=>aY 29 rfl bc λG=>dV (λH=>H) 10 30 rfl rfl ?_ ?_)))
 ·
  refine jRI [i,j] (by simp only[Al,Aq,Aw,implies_true,and_true];exact⟨a8,a9⟩) λcc=>qT (dV (λH=>H) 11 30 rfl rfl ?_ ?_)
  ·
   refine jk (λH=>vM aA (H.a Z) a0 (H.l 0 rfl) p c4) λI=>qT (dV (λH=>H) 15 30 rfl rfl ?_ ?_)
   ·
    refine jRI [p,e] (by simp only[Al,Aq,Aw,implies_true,and_true];exact⟨I,K⟩) λcd=>qT (dV (λH=>H) 16 30 rfl rfl ?_ ?_)
    ·refine jk (λH=>vM aA (H.a x) y (H.l 0 rfl) N c5) λP=>qT (jE 30 rfl ?_);refine jRI [j,e] (by simp only[Al,Aq,Aw,implies_true,and_true];exact⟨F,G⟩) λce=>qT (js [0] rfl ?_);exact H1 ⟨_,_,_,P,z,A,C,D,E,ls⟩
    refine jRI [j,e] (by simp only[Al,Aq,Aw,implies_true,and_true];exact⟨F,G⟩) λcf=>qT (js [1,0] rfl ?_);exact H2 ⟨_,_,_,_,_,x,y,z,A,C,D,E,ls⟩
   refine jRI [j,e] (by simp only[Al,Aq,Aw,implies_true,and_true];exact⟨F,G⟩) λcg=>qT (js [0] rfl ?_);exact H3 ⟨_,_,_,_,x,y,I,K,z,A,C,D,E,ls⟩
  refine jRI [j,e] (by simp only[Al,Aq,Aw,implies_true,and_true];exact⟨F,G⟩) λch=>qT (js [1,0] rfl ?_);exact H4 ⟨_,_,_,_,_,_,x,y,Z,a0,K,z,A,C,D,E,ls⟩
 refine jRI [j,e] (by simp only[Al,Aq,Aw,implies_true,and_true];exact⟨F,G⟩) λci=>qT (jE 10 rfl ?_);refine jRI [i,j] (by simp only[Al,Aq,Aw,implies_true,and_true];exact⟨a8,a9⟩) λcj=>qT ?_;exact H4 ⟨_,_,_,_,_,_,x,y,Z,a0,K,z,A,C,D,E,ls⟩
def wK (c d:Int):Option A3:= some ((A3.mk c c c))
theorem xJg {d e} {h} (hN:HN B h) (f:xM d) (i:xM e):∀ r,wK d e=some r->CG B h 224 #[xB d,xB e] (.fa (xM r.a) <| .fa (xM r.b) <| .fa (xM r.c) <| .st (.agg #[xB r.a,xB r.b,xB r.c]) λD=>D):=by
 refine vW func224 [(0,xB d),(1,xB e)] hN λr=>?_;refine aM rfl λ_=>qS (jA 3 rfl (xZe e5 (kG e3 (lU ?_))));exact j1m (λH=>H.s [] rfl rfl) (cN 0 e2) ⟨f,f,f,lv⟩
def eE (j:List Int) (f:Op) (h:Int):Option Bool:= xH (ix j 0) λd=>xH (ix j 1) λe=>xH (aW f h ([d,d,e])) λx=>xH (aW f h ([d,e,d])) λy=>xH (aW f h ([e,d,d])) λz=>xH (wK d e) λi=>qD (σ:=Unit) (qU (λp s=>match s with | _=>xH (ix [i.a,i.b,i.c] (p:Int)) λt=>qD (σ:=Bool) (if (decide (0<=t)) then xH (ix [x,y,z] (p:Int)) λA=>some (.nx (A != t)) else some (.nx false)) λB=>if B then some (.ret false) else some (.go ())) (3:Int).toNat 0 ()) λ_=>some true
theorem xEh {x0 p h} {v0 v1 v2 y} {j} (hN:HN B j) (A0:Bo B j (Sl 1 xF) v0 x0) (A1:Bo B j (Pt 2 vX) v1 p) (A2:Bo B j (Pt 1 xF) v2 h) (A3:Bk B j y [.func (.func 224) #[] #[]] 268):∀ r,eE x0 p h=some r->CG B j 263 #[v0,v1,v2,oU y] (sB r):=by
 refine vW func263 [(0,v0),(1,v1),(2,v2),(3,oU y)] hN λr=>?_;refine xR rfl (jQ (vY 1 rfl (jB λd c1=>(gU A0 c1 λ_ h1=>kN h1 λi=>vY 1 rfl (jB λe c2=>(gU A0 c2 λ_ h2=>kN h2 λt=>vY 2 rfl (lE (xNh ?_))))))));refine jB λx M=>(jB λG U=>(jB λP c5=>(jD ?_)));refine jdp (f:=1) (ls:=(bi 24 8388607)) (.n λN=>.fa (xM 0) <| .fa (xM 0) <| .fa (xM 0) <| .fa (xM x) <| .fa (xM G) <| .fa (xM P) <| .st [(3,oU y),(6,xB d),(7,xB e),(8,oU N),(38,(.agg #[xB x,xB G,xB P]))] [bx N [xB 0,xB 0,xB 0] 267]) (λN _ _ _ _ _ _=>?_) (λH1=>?_)
 ·
  refine jE 23 rfl (kG e3 (qT (gV (bX (jbK A3 e2 (jA 2 rfl (jB λO c6=>?_)))))));refine jkV (lb:=[]) call224 e2 (λH=>xJg aA i t O c6) λ_ _ _=>xA rfl (vA (λ_=>.st [] []) ?_ (λ_=>?_))
  ·
   refine zH ?_;refine jc (λk1 _=>.st [(43,xB (k1:Int)),(8,oU N),(42,(.agg #[xB O.a,xB O.b,xB O.c]))] [bx N [xB x,xB G,xB P] 267]) ls (λ_ _ _ Q=>?_) (λ_ k1 _ Q=>?_)
   ·have l1:=vJ Q;exact xN (xR rfl (zX l1 (xP (js [] rfl (jf ls)))))
   refine xN (xR rfl (kA (qW Q) (oJ ?_)));have j1:=dL Q iV;have m1:=vZ Q iV;refine qH (jo rfl (jB λz5 c7=>(oHu c7 e2 (xFz 2 rfl ?_))));refine vA (λs1=>.st [(8,oU N),(42,(.agg #[xB O.a,xB O.b,xB O.c])),(43,xB (k1:Int)),(55,.bool s1)] [bx N [xB x,xB G,xB P] 267]) ?_ (λ_=>?_)
   ·
    refine iQ (jA 3 rfl (dZ 49 (λ_=>?_) (λ_=>?_)))
    ·refine jo rfl (jB λz6 c8=>(oFi c8 e2 ?_));exact jb 0 ⟨rfl,rfl,(ix3 c8)⟩ (oD 3 rfl (jf ls))
    exact oD 6 rfl (jf ls)
   refine dA (xW ?_ ?_)
   ·exact xN (qA 1 rfl (dB (zC (cV (eT (qJ lv))))))
   exact qM (oE m1 (xA rfl (jg ls)))
  exact oQ (xX rfl (qJ lv))
 refine jdp (f:=3) (ls:=(bi 24 5242879)) (.n λb2=>.v λv3=>.v λv4=>.fa (xM 0) <| .fa (xM 0) <| .fa (xM 0) <| .fa (xM x) <| .fa (xM G) <| .fa (Bo B j (qR 2 vX) v3 p) <| .fa (xM h) <| .st [(3,oU y),(6,xB d),(7,xB e),(8,oU b2),(23,xB x),(30,xB G),(31,v3),(32,xB h),(36,v4)] [bx b2 [xB 0,xB 0,xB 0] 267,rl 1 xF 2 v4 ([e,d,d])]) (λb2 _ _ i3 i4 i5 i6 i7 h3 i8=>?_) (λH2=>?_)
 ·refine jE 20 rfl (jk (λH=>vM aA (H.a h3) i8 (H.l 1 rfl) P c5) λaw=>qT ?_);refine jvv 21 rfl (λF H w l=>xMn underlying267 zeroValue267 sizeOf2 F rfl rfl rfl rfl (oc rfl (oc rfl (oc rfl on))) rfl rfl) (js [0] rfl ?_);exact H1 ⟨_,i3,i4,i5,i6,i7,aw,ls⟩
 refine jdp (f:=4) (ls:=(bi 24 4718591)) (.n λb3=>.v λv5=>.fa (xM 0) <| .fa (xM 0) <| .fa (xM 0) <| .fa (xM x) <| .fa (xM G) <| .fa (Bo B j (qR 2 vX) v5 p) <| .fa (xM h) <| .st [(3,oU y),(6,xB d),(7,xB e),(8,oU b3),(23,xB x),(30,xB G),(31,v5),(32,xB h),(33,xB e),(34,xB d),(35,xB d)] [bx b3 [xB 0,xB 0,xB 0] 267]) (λb3 v5 i9 i10 i11 i12 i13 h4 i14=>?_) (λH3=>?_)
 ·refine jE 19 rfl ?_;refine jRI [e,d,d] (by simp only[Al,Aq,Aw,implies_true,and_true];exact⟨t,i,i⟩) λv6=>qT (js [1,0] rfl ?_);exact H2 ⟨_,_,_,i9,i10,i11,i12,i13,h4,i14,ls⟩
 refine jdp (f:=4) (ls:=(bi 24 5234687)) (.n λb4=>.v λv7=>.v λv8=>.v λv9=>.v λax=>.fa (xM 0) <| .fa (xM 0) <| .fa (xM 0) <| .fa (xM x) <| .fa (Bo B j (qR 2 vX) v7 p) <| .fa (xM h) <| .fa (Bo B j (qR 2 vX) v9 p) <| .fa (xM h) <| .st [(3,oU y),(6,xB d),(7,xB e),(8,oU b4),(23,xB x),(24,v7),(25,xB h),(29,v8),(31,v9),(32,xB h),(36,ax)] [bx b4 [xB 0,xB 0,xB 0] 267,rl 1 xF 2 v8 ([d,e,d]),rl 1 xF 2 ax ([e,d,d])]) (λb4 _ _ v9 ax i16 ha hb hc h5 he h6 hf=>?_) (λW=>?_)
 ·refine jE 13 rfl (jk (λH=>vM aA (H.a h5) he (H.l 1 rfl) G U) λL=>qT (js [0,2] rfl ?_));exact H2 ⟨_,_,_,i16,ha,hb,hc,L,h6,hf,ls⟩
 refine jdp (f:=4) (ls:=(bi 24 1048575)) (.v λay=>.v λaz=>.fa (xM x) <| .fa (xM G) <| .fa (Bo B j (qR 2 vX) ay p) <| .fa (xM h) <| .st [(3,oU y),(6,xB d),(7,xB e),(23,xB x),(30,xB G),(31,ay),(32,xB h),(36,az)] [rl 1 xF 2 az ([e,d,d])]) (λay az e6 e7 h7 e8=>?_) (λH5=>?_)
 ·
  refine dV (λH=>H) 20 22 rfl rfl ?_ ?_
  ·refine jk (λH=>vM aA (H.a h7) e8 (H.l 0 rfl) P c5) λaw=>qT ?_;refine jvv 21 rfl (λF H w l=>xMn underlying267 zeroValue267 sizeOf2 F rfl rfl rfl rfl (oc rfl (oc rfl (oc rfl on))) rfl rfl) (jE 22 rfl (aM rfl λb5=>qT (js [0] rfl ?_)));exact H1 ⟨_,xU,xU,xU,e6,e7,aw,ls⟩
  refine aM rfl λb6=>qT ?_;exact H2 ⟨_,_,_,xU,xU,xU,e6,e7,h7,e8,ls⟩
 refine jdp (f:=5) (ls:=(bi 24 5230591)) (.n λb7=>.v λb0=>.v λb1=>.v λv15=>.fa (xM 0) <| .fa (xM 0) <| .fa (xM 0) <| .fa (xM x) <| .fa (Bo B j (qR 2 vX) b0 p) <| .fa (xM h) <| .fa (Bo B j (qR 2 vX) b1 p) <| .fa (xM h) <| .st [(3,oU y),(6,xB d),(7,xB e),(8,oU b7),(23,xB x),(24,b0),(25,xB h),(26,xB d),(27,xB e),(28,xB d),(31,b1),(32,xB h),(36,v15)] [bx b7 [xB 0,xB 0,xB 0] 267,rl 1 xF 2 v15 ([e,d,d])]) (λb7 b0 b1 v15 hg hh hi hj h8 hk h9 hl=>?_) (λH6=>?_)
 ·refine jE 12 rfl ?_;refine jRI [d,e,d] (by simp only[Al,Aq,Aw,implies_true,and_true];exact⟨i,t,i⟩) λir=>qT (js [1,0,2] rfl ?_);exact W ⟨_,_,_,_,_,hg,hh,hi,hj,h8,hk,h9,hl,ls⟩
 refine jdp (f:=5) (ls:=(bi 24 1040383)) (.v λv17=>.v λv18=>.v λv19=>.v λv20=>.fa (xM x) <| .fa (Bo B j (qR 2 vX) v17 p) <| .fa (xM h) <| .fa (Bo B j (qR 2 vX) v19 p) <| .fa (xM h) <| .st [(3,oU y),(6,xB d),(7,xB e),(23,xB x),(24,v17),(25,xB h),(29,v18),(31,v19),(32,xB h),(36,v20)] [rl 1 xF 2 v18 ([d,e,d]),rl 1 xF 2 v20 ([e,d,d])]) (λv17 v18 v19 v20 e9 ea ec ed ee=>?_) (λH7=>?_)
 ·
  refine dV (λH=>H) 13 22 rfl rfl ?_ ?_
  ·refine jk (λH=>vM aA (H.a ea) ec (H.l 0 rfl) G U) λL=>qT (js [1] rfl ?_);exact H5 ⟨_,_,e9,L,ed,ee,ls⟩
  refine aM rfl λb8=>qT ?_;exact W ⟨_,_,_,_,_,xU,xU,xU,e9,ea,ec,ed,ee,ls⟩
 refine jdp (f:=5) (ls:=(bi 24 5234623)) (.n λb9=>.v λef=>.v λeg=>.v λv23=>.v λv24=>.v λv25=>.v λba=>.fa (xM 0) <| .fa (xM 0) <| .fa (xM 0) <| .fa (Bo B j (qR 2 vX) ef p) <| .fa (xM h) <| .fa (Bo B j (qR 2 vX) v23 p) <| .fa (xM h) <| .fa (Bo B j (qR 2 vX) v25 p) <| .fa (xM h) <| .st [(3,oU y),(6,xB d),(7,xB e),(8,oU b9),(17,ef),(18,xB h),(22,eg),(24,v23),(25,xB h),(29,v24),(31,v25),(32,xB h),(36,ba)] [bx b9 [xB 0,xB 0,xB 0] 267,rl 1 xF 2 eg ([d,d,e]),rl 1 xF 2 v24 ([d,e,d]),rl 1 xF 2 ba ([e,d,d])]) (λb9 _ _ v23 v24 v25 ba hm hn ho hp hq hr hs ht hu=>?_) (λX=>?_)
 ·refine jE 6 rfl (jk (λH=>vM aA (H.a hp) hq (H.l 1 rfl) x M) λz=>qT (js [0,2,3] rfl ?_));exact W ⟨_,_,_,_,_,hm,hn,ho,z,hr,hs,ht,hu,ls⟩
 refine jdp (f:=5) (ls:=(bi 24 4710399)) (.n λbb=>.v λbc=>.v λbd=>.v λbe=>.fa (xM 0) <| .fa (xM 0) <| .fa (xM 0) <| .fa (xM x) <| .fa (Bo B j (qR 2 vX) bc p) <| .fa (xM h) <| .fa (Bo B j (qR 2 vX) be p) <| .fa (xM h) <| .st [(3,oU y),(6,xB d),(7,xB e),(8,oU bb),(23,xB x),(24,bc),(25,xB h),(29,bd),(31,be),(32,xB h),(33,xB e),(34,xB d),(35,xB d)] [bx bb [xB 0,xB 0,xB 0] 267,rl 1 xF 2 bd ([d,e,d])]) (λbb bc bd be eh ei ej ek el em en eo=>?_) (λH9=>?_)
 ·
  refine dV (λH=>H) 13 19 rfl rfl ?_ ?_
  ·refine jk (λH=>vM aA (H.a el) em (H.l 1 rfl) G U) λL=>qT (js [0] rfl ?_);exact H3 ⟨_,_,eh,ei,ej,ek,L,en,eo,ls⟩
  refine jRI [e,d,d] (by simp only[Al,Aq,Aw,implies_true,and_true];exact⟨t,i,i⟩) λit=>qT (js [1,2,0] rfl ?_);exact W ⟨_,_,_,_,_,eh,ei,ej,ek,el,em,en,eo,ls⟩
 refine jdp (f:=6) (ls:=(bi 24 1040319)) (.v λbf=>.v λbg=>.v λbh=>.v λbj=>.v λbm=>.v λbn=>.fa (Bo B j (qR 2 vX) bf p) <| .fa (xM h) <| .fa (Bo B j (qR 2 vX) bh p) <| .fa (xM h) <| .fa (Bo B j (qR 2 vX) bm p) <| .fa (xM h) <| .st [(3,oU y),(6,xB d),(7,xB e),(17,bf),(18,xB h),(22,bg),(24,bh),(25,xB h),(29,bj),(31,bm),(32,xB h),(36,bn)] [rl 1 xF 2 bg ([d,d,e]),rl 1 xF 2 bj ([d,e,d]),rl 1 xF 2 bn ([e,d,d])]) (λbf bg bh bj bm bn ep er es et eu ew=>?_) (λbp=>?_)
 ·
  refine dV (λH=>H) 6 22 rfl rfl ?_ ?_
  ·refine jk (λH=>vM aA (H.a ep) er (H.l 0 rfl) x M) λz=>qT (js [1,2] rfl ?_);exact H7 ⟨_,_,_,_,z,es,et,eu,ew,ls⟩
  refine aM rfl λiu=>qT ?_;exact X ⟨_,_,_,_,_,_,_,xU,xU,xU,ep,er,es,et,eu,ew,ls⟩
 refine jdp (f:=6) (ls:=(bi 24 4706303)) (.n λbr=>.v λbs=>.v λbt=>.fa (xM 0) <| .fa (xM 0) <| .fa (xM 0) <| .fa (xM x) <| .fa (Bo B j (qR 2 vX) bs p) <| .fa (xM h) <| .fa (Bo B j (qR 2 vX) bt p) <| .fa (xM h) <| .st [(3,oU y),(6,xB d),(7,xB e),(8,oU br),(23,xB x),(24,bs),(25,xB h),(26,xB d),(27,xB e),(28,xB d),(31,bt),(32,xB h),(33,xB e),(34,xB d),(35,xB d)] [bx br [xB 0,xB 0,xB 0] 267]) (λbr bs bt ex ey ez eI eS f5 f6 f7=>?_) (λf8=>?_)
 ·
  refine dV (λH=>H) 12 19 rfl rfl ?_ ?_
  ·refine jRI [d,e,d] (by simp only[Al,Aq,Aw,implies_true,and_true];exact⟨i,t,i⟩) λiv=>qT (js [1,0] rfl ?_);exact H9 ⟨_,_,_,_,ex,ey,ez,eI,eS,f5,f6,f7,ls⟩
  refine jRI [e,d,d] (by simp only[Al,Aq,Aw,implies_true,and_true];exact⟨t,i,i⟩) λiw=>qT (js [1,0] rfl ?_);exact H6 ⟨_,_,_,_,ex,ey,ez,eI,eS,f5,f6,f7,ls⟩
 refine jdp (f:=6) (ls:=(bi 24 516095)) (.v λbu=>.v λbv=>.v λbw=>.fa (xM x) <| .fa (Bo B j (qR 2 vX) bu p) <| .fa (xM h) <| .fa (Bo B j (qR 2 vX) bw p) <| .fa (xM h) <| .st [(3,oU y),(6,xB d),(7,xB e),(23,xB x),(24,bu),(25,xB h),(29,bv),(31,bw),(32,xB h),(33,xB e),(34,xB d),(35,xB d)] [rl 1 xF 2 bv ([d,e,d])]) (λbu bv bw R c0 i60 S T=>?_) (λf9=>?_)
 ·
  refine xKp (λH=>H) 13 19 22 rfl rfl rfl ?_ ?_ ?_
  ·
   refine jk (λH=>vM aA (H.a c0) i60 (H.l 0 rfl) G U) λL=>qT (dV (λH=>H) 19 22 rfl rfl ?_ ?_)
   ·refine jRI [e,d,d] (by simp only[Al,Aq,Aw,implies_true,and_true];exact⟨t,i,i⟩) λiy=>qT (js [0] rfl ?_);exact H5 ⟨_,_,R,L,S,T,ls⟩
   refine aM rfl λiz=>qT (js [0] rfl ?_);exact H3 ⟨_,_,xU,xU,xU,R,L,S,T,ls⟩
  ·refine jRI [e,d,d] (by simp only[Al,Aq,Aw,implies_true,and_true];exact⟨t,i,i⟩) λj4=>qT (js [1,0] rfl ?_);exact H7 ⟨_,_,_,_,R,c0,i60,S,T,ls⟩
  refine aM rfl λj5=>qT ?_;exact H9 ⟨_,_,_,_,xU,xU,xU,R,c0,i60,S,T,ls⟩
 refine jdp (f:=6) (ls:=(bi 24 1036287)) (.v λv48=>.v λc3=>.v λc4=>.fa (xM x) <| .fa (Bo B j (qR 2 vX) v48 p) <| .fa (xM h) <| .fa (Bo B j (qR 2 vX) c3 p) <| .fa (xM h) <| .st [(3,oU y),(6,xB d),(7,xB e),(23,xB x),(24,v48),(25,xB h),(26,xB d),(27,xB e),(28,xB d),(31,c3),(32,xB h),(36,c4)] [rl 1 xF 2 c4 ([e,d,d])]) (λv48 c3 c4 fb fc fd fe i64=>?_) (λff=>?_)
 ·
  refine dV (λH=>H) 12 22 rfl rfl ?_ ?_
  ·refine jRI [d,e,d] (by simp only[Al,Aq,Aw,implies_true,and_true];exact⟨i,t,i⟩) λj6=>qT ?_;exact H7 ⟨_,_,_,_,fb,fc,fd,fe,i64,ls⟩
  refine aM rfl λj7=>qT ?_;exact H6 ⟨_,_,_,_,xU,xU,xU,fb,fc,fd,fe,i64,ls⟩
 refine jdp (f:=6) (ls:=(bi 24 5234591)) (.n λb16=>.v λv55=>.v λv57=>.v λv58=>.v λc9=>.v λca=>.fa (xM 0) <| .fa (xM 0) <| .fa (xM 0) <| .fa (Bo B j (qR 2 vX) v55 p) <| .fa (xM h) <| .fa (Bo B j (qR 2 vX) v57 p) <| .fa (xM h) <| .fa (Bo B j (qR 2 vX) c9 p) <| .fa (xM h) <| .st [(3,oU y),(6,xB d),(7,xB e),(8,oU b16),(17,v55),(18,xB h),(19,xB d),(20,xB d),(21,xB e),(24,v57),(25,xB h),(29,v58),(31,c9),(32,xB h),(36,ca)] [bx b16 [xB 0,xB 0,xB 0] 267,rl 1 xF 2 v58 ([d,e,d]),rl 1 xF 2 ca ([e,d,d])]) (λb16 v55 v57 v58 c9 ca hv hw hx hy hz hA hB hC hD=>?_) (λcb=>?_)
 ·refine jE 5 rfl ?_;refine jRI [d,d,e] (by simp only[Al,Aq,Aw,implies_true,and_true];exact⟨i,i,t⟩) λj8=>qT (js [1,0,2,3] rfl ?_);exact X ⟨_,_,_,_,_,_,_,hv,hw,hx,hy,hz,hA,hB,hC,hD,ls⟩
 refine jdp (f:=6) (ls:=(bi 24 4710335)) (.n λcc=>.v λcd=>.v λce=>.v λcf=>.v λcg=>.v λch=>.fa (xM 0) <| .fa (xM 0) <| .fa (xM 0) <| .fa (Bo B j (qR 2 vX) cd p) <| .fa (xM h) <| .fa (Bo B j (qR 2 vX) cf p) <| .fa (xM h) <| .fa (Bo B j (qR 2 vX) ch p) <| .fa (xM h) <| .st [(3,oU y),(6,xB d),(7,xB e),(8,oU cc),(17,cd),(18,xB h),(22,ce),(24,cf),(25,xB h),(29,cg),(31,ch),(32,xB h),(33,xB e),(34,xB d),(35,xB d)] [bx cc [xB 0,xB 0,xB 0] 267,rl 1 xF 2 ce ([d,d,e]),rl 1 xF 2 cg ([d,e,d])]) (λcc cd ce cf cg ch fg fh fi fj fk fl fm fn fo=>?_) (λci=>?_)
 ·
  refine dV (λH=>H) 6 19 rfl rfl ?_ ?_
  ·refine jk (λH=>vM aA (H.a fj) fk (H.l 1 rfl) x M) λz=>qT (js [0,2] rfl ?_);exact H9 ⟨_,_,_,_,fg,fh,fi,z,fl,fm,fn,fo,ls⟩
  refine jRI [e,d,d] (by simp only[Al,Aq,Aw,implies_true,and_true];exact⟨t,i,i⟩) λj9=>qT (js [1,2,3,0] rfl ?_);exact X ⟨_,_,_,_,_,_,_,fg,fh,fi,fj,fk,fl,fm,fn,fo,ls⟩
 refine jdp (f:=6) (ls:=(bi 24 5230527)) (.n λcj=>.v λcm=>.v λcn=>.v λco=>.v λcp=>.v λcq=>.fa (xM 0) <| .fa (xM 0) <| .fa (xM 0) <| .fa (Bo B j (qR 2 vX) cm p) <| .fa (xM h) <| .fa (Bo B j (qR 2 vX) co p) <| .fa (xM h) <| .fa (Bo B j (qR 2 vX) cp p) <| .fa (xM h) <| .st [(3,oU y),(6,xB d),(7,xB e),(8,oU cj),(17,cm),(18,xB h),(22,cn),(24,co),(25,xB h),(26,xB d),(27,xB e),(28,xB d),(31,cp),(32,xB h),(36,cq)] [bx cj [xB 0,xB 0,xB 0] 267,rl 1 xF 2 cn ([d,d,e]),rl 1 xF 2 cq ([e,d,d])]) (λcj cm cn co cp cq fp fq fs ft fu fv fw fx fy=>?_) (λcr=>?_)
 ·
  refine dV (λH=>H) 6 12 rfl rfl ?_ ?_
  ·refine jk (λH=>vM aA (H.a ft) fu (H.l 1 rfl) x M) λz=>qT (js [0,2] rfl ?_);exact H6 ⟨_,_,_,_,fp,fq,fs,z,fv,fw,fx,fy,ls⟩
  refine jRI [d,e,d] (by simp only[Al,Aq,Aw,implies_true,and_true];exact⟨i,t,i⟩) λja=>qT (js [1,2,0,3] rfl ?_);exact X ⟨_,_,_,_,_,_,_,fp,fq,fs,ft,fu,fv,fw,fx,fy,ls⟩
 refine jdp (f:=7) (ls:=(bi 24 4710303)) (.n λcs=>.v λcu=>.v λcv=>.v λcw=>.v λcx=>.fa (xM 0) <| .fa (xM 0) <| .fa (xM 0) <| .fa (Bo B j (qR 2 vX) cu p) <| .fa (xM h) <| .fa (Bo B j (qR 2 vX) cv p) <| .fa (xM h) <| .fa (Bo B j (qR 2 vX) cx p) <| .fa (xM h) <| .st [(3,oU y),(6,xB d),(7,xB e),(8,oU cs),(17,cu),(18,xB h),(19,xB d),(20,xB d),(21,xB e),(24,cv),(25,xB h),(29,cw),(31,cx),(32,xB h),(33,xB e),(34,xB d),(35,xB d)] [bx cs [xB 0,xB 0,xB 0] 267,rl 1 xF 2 cw ([d,e,d])]) (λcs cu cv cw cx fz g0 g1 g2 g3 g4 g5 g6 g7=>?_) (λg8=>?_)
 ·
  refine dV (λH=>H) 5 19 rfl rfl ?_ ?_
  ·refine jRI [d,d,e] (by simp only[Al,Aq,Aw,implies_true,and_true];exact⟨i,i,t⟩) λjd=>qT (js [1,0,2] rfl ?_);exact ci ⟨_,_,_,_,_,_,fz,g0,g1,g2,g3,g4,g5,g6,g7,ls⟩
  refine jRI [e,d,d] (by simp only[Al,Aq,Aw,implies_true,and_true];exact⟨t,i,i⟩) λje=>qT (js [1,2,0] rfl ?_);exact cb ⟨_,_,_,_,_,_,fz,g0,g1,g2,g3,g4,g5,g6,g7,ls⟩
 refine jdp (f:=7) (ls:=(bi 24 5230495)) (.n λcy=>.v λcz=>.v λd0=>.v λd1=>.v λd2=>.fa (xM 0) <| .fa (xM 0) <| .fa (xM 0) <| .fa (Bo B j (qR 2 vX) cz p) <| .fa (xM h) <| .fa (Bo B j (qR 2 vX) d0 p) <| .fa (xM h) <| .fa (Bo B j (qR 2 vX) d1 p) <| .fa (xM h) <| .st [(3,oU y),(6,xB d),(7,xB e),(8,oU cy),(17,cz),(18,xB h),(19,xB d),(20,xB d),(21,xB e),(24,d0),(25,xB h),(26,xB d),(27,xB e),(28,xB d),(31,d1),(32,xB h),(36,d2)] [bx cy [xB 0,xB 0,xB 0] 267,rl 1 xF 2 d2 ([e,d,d])]) (λcy cz d0 d1 d2 g9 ga gb gc gd ge gf gg dz=>?_) (λgh=>?_)
 ·
  refine dV (λH=>H) 5 12 rfl rfl ?_ ?_
  ·refine jRI [d,d,e] (by simp only[Al,Aq,Aw,implies_true,and_true];exact⟨i,i,t⟩) λji=>qT (js [1,0,2] rfl ?_);exact cr ⟨_,_,_,_,_,_,g9,ga,gb,gc,gd,ge,gf,gg,dz,ls⟩
  refine jRI [d,e,d] (by simp only[Al,Aq,Aw,implies_true,and_true];exact⟨i,t,i⟩) λi2=>qT (js [1,0,2] rfl ?_);exact cb ⟨_,_,_,_,_,_,g9,ga,gb,gc,gd,ge,gf,gg,dz,ls⟩
 refine jdp (f:=7) (ls:=(bi 24 1040287)) (.v λY=>.v λZ=>.v λa0=>.v λa1=>.v λa2=>.fa (Bo B j (qR 2 vX) Y p) <| .fa (xM h) <| .fa (Bo B j (qR 2 vX) Z p) <| .fa (xM h) <| .fa (Bo B j (qR 2 vX) a1 p) <| .fa (xM h) <| .st [(3,oU y),(6,xB d),(7,xB e),(17,Y),(18,xB h),(19,xB d),(20,xB d),(21,xB e),(24,Z),(25,xB h),(29,a0),(31,a1),(32,xB h),(36,a2)] [rl 1 xF 2 a0 ([d,e,d]),rl 1 xF 2 a2 ([e,d,d])]) (λY Z a0 a1 a2 gi e0 gj e1 gk e4=>?_) (λgl=>?_)
 ·
  refine dV (λH=>H) 5 22 rfl rfl ?_ ?_
  ·refine jRI [d,d,e] (by simp only[Al,Aq,Aw,implies_true,and_true];exact⟨i,i,t⟩) λv111=>qT ?_;exact bp ⟨_,_,_,_,_,_,gi,e0,gj,e1,gk,e4,ls⟩
  refine aM rfl λjj=>qT ?_;exact cb ⟨_,_,_,_,_,_,xU,xU,xU,gi,e0,gj,e1,gk,e4,ls⟩
 refine jdp (f:=7) (ls:=(bi 24 516031)) (.v λa3=>.v λa4=>.v λa5=>.v λa6=>.v λa7=>.fa (Bo B j (qR 2 vX) a3 p) <| .fa (xM h) <| .fa (Bo B j (qR 2 vX) a5 p) <| .fa (xM h) <| .fa (Bo B j (qR 2 vX) a7 p) <| .fa (xM h) <| .st [(3,oU y),(6,xB d),(7,xB e),(17,a3),(18,xB h),(22,a4),(24,a5),(25,xB h),(29,a6),(31,a7),(32,xB h),(33,xB e),(34,xB d),(35,xB d)] [rl 1 xF 2 a4 ([d,d,e]),rl 1 xF 2 a6 ([d,e,d])]) (λa3 a4 a5 a6 a7 d3 a8 d4 a9 d5 aa=>?_) (λgm=>?_)
 ·
  refine xKp (λH=>H) 6 19 22 rfl rfl rfl ?_ ?_ ?_
  ·refine jk (λH=>vM aA (H.a d3) a8 (H.l 0 rfl) x M) λz=>qT (js [1] rfl ?_);exact f9 ⟨_,_,_,z,d4,a9,d5,aa,ls⟩
  ·refine jRI [e,d,d] (by simp only[Al,Aq,Aw,implies_true,and_true];exact⟨t,i,i⟩) λv120=>qT (js [1,2,0] rfl ?_);exact bp ⟨_,_,_,_,_,_,d3,a8,d4,a9,d5,aa,ls⟩
  refine aM rfl λjm=>qT ?_;exact ci ⟨_,_,_,_,_,_,xU,xU,xU,d3,a8,d4,a9,d5,aa,ls⟩
 refine jdp (f:=7) (ls:=(bi 24 1036223)) (.v λab=>.v λac=>.v λad=>.v λae=>.v λaf=>.fa (Bo B j (qR 2 vX) ab p) <| .fa (xM h) <| .fa (Bo B j (qR 2 vX) ad p) <| .fa (xM h) <| .fa (Bo B j (qR 2 vX) ae p) <| .fa (xM h) <| .st [(3,oU y),(6,xB d),(7,xB e),(17,ab),(18,xB h),(22,ac),(24,ad),(25,xB h),(26,xB d),(27,xB e),(28,xB d),(31,ae),(32,xB h),(36,af)] [rl 1 xF 2 ac ([d,d,e]),rl 1 xF 2 af ([e,d,d])]) (λab ac ad ae af d6 ag d7 ah d8 ai=>?_) (λgn=>?_)
 ·
  refine xKp (λH=>H) 6 12 22 rfl rfl rfl ?_ ?_ ?_
  ·refine jk (λH=>vM aA (H.a d6) ag (H.l 0 rfl) x M) λz=>qT (js [1] rfl ?_);exact ff ⟨_,_,_,z,d7,ah,d8,ai,ls⟩
  ·refine jRI [d,e,d] (by simp only[Al,Aq,Aw,implies_true,and_true];exact⟨i,t,i⟩) λv129=>qT (js [1,0,2] rfl ?_);exact bp ⟨_,_,_,_,_,_,d6,ag,d7,ah,d8,ai,ls⟩
  refine aM rfl λjn=>qT ?_;exact cr ⟨_,_,_,_,_,_,xU,xU,xU,d6,ag,d7,ah,d8,ai,ls⟩
 refine jdp (f:=7) (ls:=(bi 24 4706239)) (.n λd9=>.v λaj=>.v λak=>.v λal=>.v λam=>.fa (xM 0) <| .fa (xM 0) <| .fa (xM 0) <| .fa (Bo B j (qR 2 vX) aj p) <| .fa (xM h) <| .fa (Bo B j (qR 2 vX) al p) <| .fa (xM h) <| .fa (Bo B j (qR 2 vX) am p) <| .fa (xM h) <| .st [(3,oU y),(6,xB d),(7,xB e),(8,oU d9),(17,aj),(18,xB h),(22,ak),(24,al),(25,xB h),(26,xB d),(27,xB e),(28,xB d),(31,am),(32,xB h),(33,xB e),(34,xB d),(35,xB d)] [bx d9 [xB 0,xB 0,xB 0] 267,rl 1 xF 2 ak ([d,d,e])]) (λd9 aj ak al am an ao aq da ar db au dc av=>?_) (λgp=>?_)
 ·
  refine xKp (λH=>H) 6 12 19 rfl rfl rfl ?_ ?_ ?_
  ·refine jk (λH=>vM aA (H.a da) ar (H.l 1 rfl) x M) λz=>qT (js [0] rfl ?_);exact f8 ⟨_,_,_,an,ao,aq,z,db,au,dc,av,ls⟩
  ·refine jRI [d,e,d] (by simp only[Al,Aq,Aw,implies_true,and_true];exact⟨i,t,i⟩) λv137=>qT (js [1,2,0] rfl ?_);exact ci ⟨_,_,_,_,_,_,an,ao,aq,da,ar,db,au,dc,av,ls⟩
  refine jRI [e,d,d] (by simp only[Al,Aq,Aw,implies_true,and_true];exact⟨t,i,i⟩) λv138=>qT (js [1,2,0] rfl ?_);exact cr ⟨_,_,_,_,_,_,an,ao,aq,da,ar,db,au,dc,av,ls⟩
 refine xFu 0 rfl A1 λv140 K=>aY 1 rfl A2 λI=>zG [2,3,4] rfl (xFu 7 rfl A1 λv141 D=>aY 8 rfl A2 λA=>zG [9,10,11] rfl (xFu 14 rfl A1 λia E=>aY 15 rfl A2 λC=>zG [16,17,18] rfl (oMc (λH=>H) 5 12 19 22 rfl rfl rfl rfl ?_ ?_ ?_ ?_)))
 ·
  refine jRI [d,d,e] (by simp only[Al,Aq,Aw,implies_true,and_true];exact⟨i,i,t⟩) λib=>qT (oMc (λH=>H) 6 12 19 22 rfl rfl rfl rfl ?_ ?_ ?_ ?_)
  ·
   refine jk (λH=>vM aA (H.a K) I (H.l 0 rfl) x M) λz=>qT (xKp (λH=>H) 12 19 22 rfl rfl rfl ?_ ?_ ?_)
   ·refine jRI [d,e,d] (by simp only[Al,Aq,Aw,implies_true,and_true];exact⟨i,t,i⟩) λic=>qT (js [0] rfl ?_);exact f9 ⟨_,_,_,z,D,A,E,C,ls⟩
   ·refine jRI [e,d,d] (by simp only[Al,Aq,Aw,implies_true,and_true];exact⟨t,i,i⟩) λie=>qT (js [0] rfl ?_);exact ff ⟨_,_,_,z,D,A,E,C,ls⟩
   refine aM rfl λjp=>qT (js [0] rfl ?_);exact f8 ⟨_,_,_,xU,xU,xU,z,D,A,E,C,ls⟩
  ·refine jRI [d,e,d] (by simp only[Al,Aq,Aw,implies_true,and_true];exact⟨i,t,i⟩) λig=>qT (js [1,0] rfl ?_);exact gm ⟨_,_,_,_,_,K,I,D,A,E,C,ls⟩
  ·refine jRI [e,d,d] (by simp only[Al,Aq,Aw,implies_true,and_true];exact⟨t,i,i⟩) λih=>qT (js [1,0] rfl ?_);exact gn ⟨_,_,_,_,_,K,I,D,A,E,C,ls⟩
  refine aM rfl λjq=>qT ?_;exact gp ⟨_,_,_,_,_,xU,xU,xU,K,I,D,A,E,C,ls⟩
 ·
  refine jRI [d,e,d] (by simp only[Al,Aq,Aw,implies_true,and_true];exact⟨i,t,i⟩) λjr=>qT (xKp (λH=>H) 5 19 22 rfl rfl rfl ?_ ?_ ?_)
  ·refine jRI [d,d,e] (by simp only[Al,Aq,Aw,implies_true,and_true];exact⟨i,i,t⟩) λii=>qT ?_;exact gm ⟨_,_,_,_,_,K,I,D,A,E,C,ls⟩
  ·refine jRI [e,d,d] (by simp only[Al,Aq,Aw,implies_true,and_true];exact⟨t,i,i⟩) λij=>qT (js [1,0] rfl ?_);exact gl ⟨_,_,_,_,_,K,I,D,A,E,C,ls⟩
  refine aM rfl λju=>qT ?_;exact g8 ⟨_,_,_,_,_,xU,xU,xU,K,I,D,A,E,C,ls⟩
 ·
  refine jRI [e,d,d] (by simp only[Al,Aq,Aw,implies_true,and_true];exact⟨t,i,i⟩) λik=>qT (xKp (λH=>H) 5 12 22 rfl rfl rfl ?_ ?_ ?_)
  ·refine jRI [d,d,e] (by simp only[Al,Aq,Aw,implies_true,and_true];exact⟨i,i,t⟩) λil=>qT ?_;exact gn ⟨_,_,_,_,_,K,I,D,A,E,C,ls⟩
  ·refine jRI [d,e,d] (by simp only[Al,Aq,Aw,implies_true,and_true];exact⟨i,t,i⟩) λim=>qT ?_;exact gl ⟨_,_,_,_,_,K,I,D,A,E,C,ls⟩
  refine aM rfl λjv=>qT ?_;exact gh ⟨_,_,_,_,_,xU,xU,xU,K,I,D,A,E,C,ls⟩
 refine aM rfl λjx=>qT (xKp (λH=>H) 5 12 19 rfl rfl rfl ?_ ?_ ?_)
 ·refine jRI [d,d,e] (by simp only[Al,Aq,Aw,implies_true,and_true];exact⟨i,i,t⟩) λio=>qT (js [1,0] rfl ?_);exact gp ⟨_,_,_,_,_,xU,xU,xU,K,I,D,A,E,C,ls⟩
 ·refine jRI [d,e,d] (by simp only[Al,Aq,Aw,implies_true,and_true];exact⟨i,t,i⟩) λip=>qT (js [1,0] rfl ?_);exact g8 ⟨_,_,_,_,_,xU,xU,xU,K,I,D,A,E,C,ls⟩
 refine jRI [e,d,d] (by simp only[Al,Aq,Aw,implies_true,and_true];exact⟨t,i,i⟩) λiq=>qT (js [1,0] rfl ?_);exact gh ⟨_,_,_,_,_,xU,xU,xU,K,I,D,A,E,C,ls⟩
def pL (N:Nat) (d:Int) (c:Op):Option Bool:= qD (σ:=Bool) (if (c.arity==3) then xH (aR N d 2 (λe=>eE e (Op.mk c.arity c.table) d)) λf=>some (.nx f) else some (.nx false)) λh=>some h
theorem xHc {c j} {d} {e} (hN:HN B e) (i:xM c) (p:Bo B e (qR 2 vX) d j):∀ r,pL N c j=some r->CG B e 223 #[xB c,d,.func (.func 224) #[] #[]] (sB r):=by
 refine vW func223 [(0,xB c),(1,d),(2,.func (.func 224) #[] #[])] hN λr=>?_;refine jX e2 (λ_=>?_);obtain⟨C,rfl,t,x⟩:=vX.o p;refine jX e2 λ_=>jX e2 λ_=>xR rfl (vA (λy=>.st [(6,.bool y)] []) ?_ (λ_=>?_))
 ·
  refine iQ (oH e2 (jb 1 e3 (jA 2 rfl (dZ 10 (λ_=>?_) (λ_=>?_)))))
  ·exact jb 2 e3 (cU e2 (jB λz A=>(jk (λH=>mN aA i pV call263 (λD r h W f E f0=>xEh aA f0 ((vX.b (H.g 1 rfl).bk t (H.a x)).w f) ((c1I (H.g 2 rfl).bk i).w f) ((H.g 0 rfl).bk.w f) r h) z A) (oD 2 rfl (js [] rfl (jf ls))))))
  exact oD 5 rfl (js [] rfl (jf ls))
 exact lY (qJ lv)
def zR:Nat->Int->Op->Int->Option Bool | 0,_,_,_=>none | N+1,d,c,e=>if (e==1) then qD (σ:=Unit) (qU (λB s=>match s with | _=>none) c.arity.toNat 0 ()) λ_=>some false else if (e==2) then none else if (e==3) then xH (aR N d 1 (λf=>rH f (Op.mk c.arity c.table) d)) λi=>some i else if (e==4) then none else if (e==5) then qD (σ:=Bool) (if (c.arity==2) then xH (eD N d (Op.mk c.arity c.table)) λj=>some (.nx j) else some (.nx false)) λp=>some p else if (e==6) then qD (σ:=Bool) (xH (zR N d (Op.mk c.arity c.table) 3) λt=>if t then xH (zR N d (Op.mk c.arity c.table) 5) λx=>if x then xH (aR N d 3 (λf=>mJ f (Op.mk c.arity c.table) d)) λh=>some (.nx h) else some (.nx false) else some (.nx false)) λy=>some y else if (e==7) then xH (pL N d (Op.mk c.arity c.table)) λz=>some z else if (e==8) then none else if (e==9) then none else xH (eD N d (Op.mk c.arity c.table)) λA=>some A
theorem xKo:∀ (N:Nat) {B:Nat->Prop} {e:Int} {i:Op} {j:Int} (r:Bool) (t:zR N e i j=some r) {y:Vl} (z:Wd) (hN:HN B z) (c:xM e) (A:Bo B z (qR 2 vX) y i) (E:xM j),CG B z 159 #[xB e,y,xB j] (sB r):=by
 intro N
 induction N with
 | zero=>intro B e i j r t;unfold zR at t;cases t
 | succ N ih=>
 intro B e i j r t y z hN c A E;rw[zR] at t
 revert r
 refine vW func159 [(0,xB e),(1,y),(2,xB j)] hN λr=>?_;refine jX e2 (λC=>?_);obtain⟨I,rfl,d,f⟩:=vX.o A;refine jX e2 λD=>xI rfl (jo rfl (xJu (oD 2 rfl (xW ?_ ?_))))
 ·
  refine xV (oH e2 (jb 0 e3 (xA rfl (vA (λ_=>.st [] []) ?_ (λ_=>?_)))))
  ·
   refine zH ?_;refine jc (λK _=>.st [(13,xB (K:Int)),(3,oU C),(4,oU D),(12,xB i.arity)] [bx D [xB i.arity,I] 104,bx C [xB e] 2]) ls (λ_ _ _ p=>?_) (λ_ _ _ p=>?_)
   ·have L:=vJ p;exact xN (xR rfl (zX L (xP (js [] rfl (jf ls)))))
   refine xN (xR rfl (kA (qW p) (oJ ?_)));have j1:=dL p d;have m1:=vZ p d;exact qH (xFz 2 rfl (jno))
  exact oQ (bE 1 rfl (qJ lv))
 refine xN (oD 2 rfl (xW ?_ ?_))
 ·exact a_s (jno)
 refine xN (oD 2 rfl (xW ?_ ?_))
 ·exact xN (jb 1 e3 (cU e2 (jB λM F=>(jk (λH=>mN aA c zD call217 (λO r h W x P f0=>xIn aA f0 ((vX.b (H.g 0 rfl).bk d (H.a f)).w x) ((c1I (H.g 1 rfl).bk c).w x) r h) M F) (bE 1 rfl (qJ lv))))))
 refine xN (oD 2 rfl (xW ?_ ?_))
 ·exact a_s (jno)
 refine xN (oD 2 rfl (xW ?_ ?_))
 ·
  refine a_s (vA (λQ=>.st [(6,.bool Q)] []) ?_ (λ_=>?_))
  ·
   refine iQ (oH e2 (jb 0 e3 (jA 2 rfl (dZ 48 (λ_=>?_) (λ_=>?_)))))
   ·refine jb 1 e3 (aH 0 e3 (jB λR S=>?_));exact jk (λH=>tZ aA c (vX.m d (H.a f)) R S) (oD 2 rfl (js [] rfl (jf ls)))
   exact oD 5 rfl (js [] rfl (jf ls))
  exact xLw (qJ lv)
 refine xN (oD 2 rfl (xW ?_ ?_))
 ·
  refine a_s (vA (λT=>.st [(6,.bool T)] []) ?_ (λ_=>?_))
  ·
   refine iQ (jb 1 e3 (aH 0 e3 (jB λU X=>?_)));refine jk (λH=>ih U X _ aA c (vX.m d (H.a f)) iV) (jo rfl (dZ 58 (λ_=>?_) (λ_=>?_)))
   ·
    refine jb 1 e3 (aH 0 e3 (jB λY Z=>?_));refine jk (λH=>ih Y Z _ aA c (vX.m d (H.a f)) oLf) (jA 2 rfl (dZ 63 (λ_=>?_) (λ_=>?_)))
    ·exact jb 1 e3 (cU e2 (jB λG c4=>(jk (λH=>mN aA c iV call222 (λO r h W x P f0=>xIo aA f0 ((vX.b (H.g 0 rfl).bk d (H.a f)).w x) ((c1I (H.g 1 rfl).bk c).w x) r h) G c4) (oD 2 rfl (js [] rfl (jf ls))))))
    exact oD 5 rfl (js [] rfl (jf ls))
   exact oD 10 rfl (js [] rfl (jf ls))
  exact xLw (qJ lv)
 refine xN (oD 2 rfl (xW ?_ ?_))
 ·refine xN (jb 1 e3 (aH 0 e3 (jB λz5 c5=>?_)));exact jk (λH=>xHc aA c (vX.m d (H.a f)) z5 c5) (bE 1 rfl (qJ lv))
 refine xN (oD 2 rfl (xW ?_ ?_))
 ·exact a_s (jno)
 refine xN (oD 2 rfl (xW ?_ ?_))
 ·exact a_s (jno)
 refine wA (jb 1 e3 (aH 0 e3 (jB λz6 c6=>?_)));exact jk (λH=>tZ aA c (vX.m d (H.a f)) z6 c6) (xX rfl (qJ lv))
theorem xDn {d f e} (r) (p:zR N d f e=some r) {h} (c) (hN:HN B c) (i:xM d) (t:Bo B c (qR 2 vX) h f) (j:xM e):CG B c 159 #[xB d,h,xB e] (sB r):= xKo N r p c hN i t j
def fO (N:Nat) (c:Op) (d:A6) (e:Int):Option Bool:= xH (zR N d.size (Op.mk c.arity c.table) e) λf=>some f
theorem tQ {h i j} {d e f} {c} (hN:HN B c) (t:Bo B c (qR 2 vX) d h) (x:Bo B c (Pt 2 xC) e i) (y:Bo B c (Pt 1 xF) f j):∀ r,fO N h i j=some r->CG B c 158 #[d,e,f] (sB r):=by
 refine vW func158 [(0,d),(1,e),(2,f)] hN λr=>?_;obtain⟨G,rfl,z,A⟩:=vX.o t;refine jX e2 λ_=>xK rfl (kZ x xC.f0 λ_ p=>aJ p λC=>aH 0 e3 (aJ y λD=>jB λE F=>?_));exact jk (λH=>xDn E F _ aA C (vX.m z (H.a A)) D) (xX rfl (qJ lv))
def eO (N:Nat) (c:Op) (d:A6) (e f:Int) (h:List Int):Option (Int×Int×(List Int)):= xH (fO N (Op.mk c.arity c.table) d e) λi=>if (!i) then some (0,f,h) else some ((-1),c.arity,c.table)
theorem wS {d:Op} {x:A6} {y h:Int} {z:List Int} (r:Int×Int×(List Int)) (K:eO N d x y h z=some r) {f:Vl} {i:Vl} {j:Vl} {p:Nat} {e:Nat} {A:Vl} {E:List Nat} (c:Wd) (hN:HN B c) (L:Sep E B c c [rl 1 xF 2 f d.table,bx e [xB h,A] 104,rl 1 xF 2 A z]) (t:xM d.arity) (G:Bo B c (Pt 2 xC) i x) (I:Bo B c (Pt 1 xF) j y) (M:Bk B c p [.func (.func 158) #[] #[i,j]] 210) (F:xM h):Calls prog 212 #[(.agg #[xB d.arity,f]),oU p,oU e] c (Gt B c E (.v λC=>.fa (xM r.1) <| .fa (xM r.2.1) <| .st (xB r.1) λD=>bx e [xB r.2.1,C] 104::rl 1 xF 2 C r.2.2::D)):=by
 unfold eO at K
 revert r
 refine jin func212 [(0,(.agg #[xB d.arity,f])),(1,oU p),(2,oU e)] L λr=>?_;refine xN (jX e2 λ_=>xI rfl (jbK M e2 (aH 0 e3 (jB λO P=>?_))));refine jkV (lb:=[i,j]) call158 e2 (λH=>tQ aA (vX.m t (H.l 1 rfl)) (H.a G) (H.a I) O P) (xA rfl (xW ?_ ?_))
 ·refine xN (xT rfl (js [2,3] rfl ?_));exact j1 (rt rfl) ⟨_,xU,F,lv⟩
 refine qG (aH 0 e3 (js [2,0,1,3] rfl ?_));refine kG (hv:=(λH=>oc rfl (oc (H.l 2 rfl).one on))) e3 (qS (xX rfl (js [0,2] rfl ?_)));exact j1 (rt rfl) ⟨_,kV,t,lv⟩
def bG (e:Int) (D:List Rel) (E:Int) (f:List (List lookT)) (h:List (List Bool)) (F:List Int) (G:Int) (c:List Int):Option Bool:= xH (ck ((c.length:Int) - 1)) λi=>xH (ix f i) λj=>qD (σ:=Unit) (oM (λH (d:lookT) s=>match s with | _=>qD (σ:=Int) (oM (λI p t=>xH (ck (t*e)) λx=>xH (ix c p) λy=>xH (ck (x+y)) λz=>some (.go z)) d.cells 0 0) λA=>xH (ix h d.rel) λB=>xH (ix B A) λC=>if (!C) then some (.ret false) else some (.go ())) j 0 ()) λ_=>some true
theorem xDy {f:Int} {O:List Rel} {h:Int} {P:List (List lookT)} {Q:List (List Bool)} {R:List Int} {i:Int} {j:List Int} (r:Bool) (hR:bG f O h P Q R i j=some r) {d:Nat} {p:Vl} {t:Vl} {x:Vl} {y:Vl} {c:Vl} {S:List Nat} (e:Wd) (hN:HN B e) (S0:Sep S B e e [bx d [xB f,p,xB h,t,x,y,xB i,c] 255,rl 1 xF 2 c j]) (au:xM f) (av:Bo B e (Sl 2 oR) p O) (aw:xM h) (a0:Bo B e (Sl 1 (zV 2 kL)) t P) (a1:Bo B e (Sl 1 (zV 1 aF)) x Q) (ax:Bo B e (Sl 1 xF) y R) (ay:xM i):Calls prog 256 #[oU d] e (Gt B e S (.st (.bool r) λD=>bx d [xB f,p,xB h,t,x,y,xB i,c] 255::rl 1 xF 2 c j::D)):=by
 unfold bG at hR
 revert r
 refine jin func256 [(0,oU d)] S0 λr=>?_;refine xN (jo rfl (gL (jQ (vY 2 rfl (sQ e2 (jqb 0 e3 (vY 2 rfl (sQ e2 (jqb 0 e3 (oJq (λH=>H.l 1 rfl) λ_=>jB λz1 c1=>(jqv (λF H w l=>xBi F rfl rfl c1) (jB λG c2=>(gU a0 c2 (λ_ h1=>?_))))))))))))));refine eN h1 λI T=>jqL T λU=>vY 1 rfl (lE (dA ?_));refine vA (λ_=>.st [(0,oU d)] [bx d [xB f,p,xB h,t,x,y,xB i,c] 255,rl 1 xF 2 c j]) ?_ (λ_=>?_)
 ·
  refine zH ?_;refine jl (λz _=>.st [(21,xB (z:Int)),(0,oU d),(19,I),(20,xB (G.length:Int))] [bx d [xB f,p,xB h,t,x,y,xB i,c] 255,rl 1 xF 2 c j]) ls (λ_ _ _ q1=>?_) (λz K _ C y1=>?_)
  ·have l1:=oO q1;exact xN (xR rfl (zX l1 (xP (jf ls))))
  refine xN (xR rfl (kA (xZ C) (oJ ?_)));have j2:=bV (Ae C) U;refine qH (jI T y1 λ_ h3=>jlA h3 λ_ h4=>aM rfl (λA=>?_));obtain⟨L,rfl,i2,M⟩:=kL.o h4;refine kG (hv:=(λH=>oc rfl (oc (H.a M).one on))) e3 (qS (xI rfl (oH e2 (jb 0 e3 (jL M λW=>xA rfl ?_)))));refine vA (λX=>.fa (xM X) <| .st [(0,oU d),(4,oU A),(5,xB X),(19,I),(20,xB (G.length:Int)),(21,xB (z:Int))] [bx A [xB K.rel,L] 258,bx d [xB f,p,xB h,t,x,y,xB i,c] 255,rl 1 xF 2 c j]) ?_ (λ_ _=>?_)
  ·
   refine zH ?_;refine jl (λY N=>.fa (xM N) <| .st [(28,xB (Y:Int)),(0,oU d),(4,oU A),(5,xB N),(19,I),(20,xB (G.length:Int)),(21,xB (z:Int)),(26,L),(27,xB (K.cells.length:Int))] [bx A [xB K.rel,L] 258,bx d [xB f,p,xB h,t,x,y,xB i,c] 255,rl 1 xF 2 c j]) ⟨xU,ls⟩ (λ_ N _ q2 i4=>?_) (λY _ _ E y2 _=>?_)
   ·have l2:=oO q2;refine xN (xR rfl (zX l2 (xP ?_)));exact jf ⟨i4,ls⟩
   refine xN (xR rfl (kA (xZ E) (oJ ?_)));have j3:=bV (Ae E) W;refine qH (jI M y2 λ_ h6=>aJ h6 λ_=>xA rfl (js [2,0,1] rfl (cM λ_ _ _ _ g1 _ a2 _=>(jQ (vY 3 rfl (sQ e2 (sQ e2 (jqb 1 e3 (jB λz3 c3=>(jqv (λF H w l=>yB F rfl rfl c3) (vY 2 rfl ?_)))))))))));refine sQ e2 (jqb 1 e3 (vY 1 rfl (jB λz4 c4=>(gU g1.ld c4 λ_ h7=>kN h7 λ_=>jB λz5 Z=>(jqv (λF H w l=>wF F rfl rfl Z) (vY 1 rfl (lE (aK (oE (qE E W) (xA rfl (kY a2 ?_)))))))))));refine js [1,2,0] rfl ?_;exact jg ⟨(zI Z),ls⟩
  refine xNh (jQ (vY 2 rfl (sQ e2 (jqb 1 e3 (sQ e2 (jqb 0 e3 (jB λz6 c6=>(gU a1 c6 λ_ h8=>eN h8 λ_ h9=>vY 1 rfl (jB λz7 c7=>(gU h9 c7 λ_ a3=>oLu a3 (vY 1 rfl ?_)))))))))));refine lE (dA (xW ?_ ?_))
  ·refine xN (qA 1 rfl (dB (zC (cV (eT (js [1,2] rfl ?_))))));exact j1 (rt rfl) lv
  exact qM (oE (qE C U) (xA rfl (js [1,2] rfl (jg ls))))
 refine oQ (xX rfl ?_);exact j1 (rt rfl) lv
def zF:Nat->Int->(List Rel)->Int->(List (List lookT))->(List (List Bool))->(List Int)->Int->(List Int)->A6->Int->Int->(List Int)->Option (Int×Int×(List Int)×Int×(List Int)) | 0,_,_,_,_,_,_,_,_,_,_,_,_=>none | N+1,j,E,p,F,G,e,H,c,A,B,C,D=>if ((c.length:Int)==(e.length:Int)) then xH (oV c) λW=>xH (eO N (Op.mk p W) A B C D) λt=>some (t.1,H,c,t.2.1,t.2.2) else qD (σ:=Int×(List Int)×Int×(List Int)) (qU (λK s=>match s with | (f,x,h,i)=>qD (σ:=Bool) (xH (ix e (c.length:Int)) λL=>if (decide (0<=L)) then some (.nx (L != (K:Int))) else some (.nx false)) λX=>if X then some (.go (f,x,h,i)) else if (f==6000) then some (.ret (7,f,x,h,i)) else xH (ck (f+1)) λy=>xH (ap x ([(K:Int)])) λz=>xH (bG j E p F G e y z) λY=>qD (σ:=Int×Int×(List Int)×Int×(List Int)) (if Y then xH (zF N j E p F G e y z A B h i) λd=>some (.nx (d.1,d.2.1,d.2.2.1,d.2.2.2.1,d.2.2.2.2)) else some (.nx (0,y,z,h,i))) λ(M,O,Z,P,I)=>xH (sl Z 0 (c.length:Int)) λQ=>if (M != 0) then some (.ret (M,O,Q,P,I)) else some (.go (O,Q,P,I))) j.toNat 0 (H,c,C,D)) λ(R,S,T,U)=>some (0,R,S,T,U)
theorem xAw:∀ (N:Nat) {B:Nat->Prop} {d:Int} {U:List Rel} {h:Int} {W:List (List lookT)} {X:List (List Bool)} {Y:List Int} {I:Int} {y:List Int} {Q:A6} {R F:Int} {S:List Int} (r:Int×Int×(List Int)×Int×(List Int)) (L:zF N d U h W X Y I y Q R F S=some r) {e:Nat} {j:Vl} {p:Vl} {t:Vl} {x:Vl} {ad:Vl} {a4:Vl} {a5:Vl} {i:Nat} {c:Nat} {a6:Vl} {X0:List Nat} (f:Wd) (hN:HN B f) (S0:Sep X0 B f f [bx e [xB d,j,xB h,p,t,x,xB I,ad] 255,rl 1 xF 2 ad y,bx c [xB F,a6] 104,rl 1 xF 2 a6 S]) (G:xM d) (a9:Bo B f (Sl 2 oR) j U) (T:xM h) (aa:Bo B f (Sl 1 (zV 2 kL)) p W) (ab:Bo B f (Sl 1 (zV 1 aF)) t X) (z:Bo B f (Sl 1 xF) x Y) (ac:xM I) (a7:Bo B f (Pt 2 xC) a4 Q) (a8:Bo B f (Pt 1 xF) a5 R) (ae:Bk B f i [.func (.func 158) #[] #[a4,a5]] 210) (a3:xM F),Calls prog 211 #[oU e,.func (.func 212) #[] #[oU i,oU c]] f (Gt B f X0 (.v λaq=>.v λar=>.fa (xM r.1) <| .fa (xM r.2.1) <| .fa (xM r.2.2.2.1) <| .st (xB r.1) λD=>bx e [xB d,j,xB h,p,t,x,xB r.2.1,aq] 255::rl 1 xF 2 aq r.2.2.1::bx c [xB r.2.2.2.1,ar] 104::rl 1 xF 2 ar r.2.2.2.2::D)):=by
 intro N
 induction N with
 | zero=>intro B d U h W X Y I y Q R F S r L;unfold zF at L;cases L
 | succ N ih=>
 intro B d U h W X Y I y Q R F S r L e j p t x ad a4 a5 i c a6 X0 f hN S0 G a9 T aa ab z ac a7 a8 ae a3;rw[zF] at L
 revert r
 refine jin func211 [(0,oU e),(1,.func (.func 212) #[] #[oU i,oU c])] S0 λr=>?_;refine xN (xK rfl (jA 2 rfl (oH e2 (jb 0 e3 (nO (λH=>H.l 1 rfl) λ_=>xI rfl (jA 3 rfl (oH e2 (jb 0 e3 (jL z λ_=>xA rfl ?_)))))))));refine xW ?_ ?_
 ·refine a_s (jB λz1 c1=>(jB λz2 c2=>(cM λw1 X1 N1 _ g1 af b5 _=>?_)));have K1:=g1.bk;refine jD (zG [0,1,2] rfl (kJ 3 rfl e2 (gH 4 rfl K1 e2 (zG [5,6] rfl (kJ 7 rfl e2 (gH 8 rfl K1 e2 (jE 9 rfl (jk (λH=>qV aA (H.l 0 rfl) z1 c1) λv1=>qT (jE 10 rfl ?_)))))))));refine qC (hone:=(λH=>oc rfl (oc (H.l 0 rfl).one on))) e5 (qT (jE 11 rfl (js [0,2,3,1] rfl ?_)));refine jkoV 3 (lb:=[oU i,oU c]) call212 e2 (λK2 H=>wS z2 c2 _ H.hN K2 T (H.u (af a7)) (H.u (af a8)) ((ae.lf af).to H.sm) a3) λv2 i1 i2=>qT (zG [12] rfl (gV (xSb (kY b5 (js [0,3,1,2] rfl ?_)))));exact j1 (rt rfl) ⟨_,_,i1,ac,i2,lv⟩
 refine qY (jA 2 rfl (oH e2 (oH e2 (jb 0 e3 (xA rfl ?_)))));refine vA (λ(s1,s2,s3,s4)=>.v λv3=>.v λv4=>.fa (xM s1) <| .fa (xM s3) <| .st [(0,oU e),(1,.func (.func 212) #[] #[oU i,oU c])] [bx e [xB d,j,xB h,p,t,x,xB s1,v3] 255,rl 1 xF 2 v3 s2,bx c [xB s3,v4] 104,rl 1 xF 2 v4 s4]) ?_ (λ(s1,s2,s3,s4) v3 v4 i3 i4=>?_)
 ·
  refine zH ?_;refine jc (λM (O,Z,P,s8)=>.v λA=>.v λC=>.fa (xM O) <| .fa (xM P) <| .st [(37,xB (M:Int)),(0,oU e),(1,.func (.func 212) #[] #[oU i,oU c]),(5,xB (y.length:Int)),(36,xB d)] [bx e [xB d,j,xB h,p,t,x,xB O,A] 255,rl 1 xF 2 A Z,bx c [xB P,C] 104,rl 1 xF 2 C s8]) ⟨_,_,ac,a3,ls⟩ (λ_ (O,Z,P,s8) _ K A C i5 E=>?_) (λ_ M (O,Z,P,s8) K A C i5 E=>?_)
  ·have l1:=vJ K;refine xN (xR rfl (zX l1 (xP ?_)));exact jf ⟨_,_,i5,E,ls⟩
  refine xN (xR rfl (kA (qW K) (oJ ?_)));have m1:=vZ K G;refine qH (jA 2 rfl (gL ?_));refine vA (λs9=>.st [(0,oU e),(1,.func (.func 212) #[] #[oU i,oU c]),(5,xB (y.length:Int)),(6,xB (M:Int)),(36,xB d),(37,xB (M:Int)),(58,.bool s9)] [bx e [xB d,j,xB h,p,t,x,xB O,A] 255,rl 1 xF 2 A Z,bx c [xB P,C] 104,rl 1 xF 2 C s8]) ?_ (λ_=>?_)
  ·
   refine iQ (jA 2 rfl (oH e2 (jb 0 e3 (jo rfl (jB λz3 c3=>(jI z c3 λ_ h1=>aJ h1 λ_=>jA 2 rfl (dZ 48 (λ_=>?_) (λ_=>?_))))))))
   ·exact jA 2 rfl (oH e2 (jb 0 e3 (jo rfl (jI z c3 λ_ h2=>aJ h2 λ_=>oD 3 rfl (jf ls)))))
   exact oD 10 rfl (jf ls)
  refine dA (xW ?_ ?_)
  ·refine xQk (oE m1 (xA rfl ?_));exact jg ⟨_,_,i5,E,ls⟩
  refine qY (jA 2 rfl (oH e2 (jb 0 e3 (xA rfl (xW ?_ ?_)))))
  ·refine xN (jo rfl (aZ (dB (zC (cV (eT ?_))))));exact j1 (rt rfl) ⟨_,_,xNy,i5,E,lv⟩
  refine qG (jA 2 rfl (oH e2 (jb 0 e3 (jB λz4 c4=>(kE c4 (jo rfl (oH e2 (jW e3 (qS (jA 3 rfl (oH e2 (jb 0 e3 (jo rfl (iX (λH=>Eo.int (dL K G)) (λ_=>?_)))))))))))))));refine jB λz5 c5=>(js [2,0,1,3,4] rfl (jPL c5 λv7=>jo rfl (oH e2 (js [1,0,2,3] rfl (jW (hv:=(λH=>(H.l 1 rfl).one)) e3 (qS (xI rfl (jo rfl (jB λz6 c6=>?_)))))))));refine jko 2 (λK3 H=>xDy z6 c6 _ H.hN K3 G (H.u a9) T (H.u aa) (H.u ab) (H.u z) (zI c4)) (aI ?_);refine vA (λ(ag,ah,au,ai,av)=>.v λv8=>.v λv9=>.fa (xM ag) <| .fa (xM ah) <| .fa (xM ai) <| .st [(0,oU e),(1,.func (.func 212) #[] #[oU i,oU c]),(5,xB (y.length:Int)),(7,xB ag),(36,xB d),(37,xB (M:Int))] [bx e [xB d,j,xB h,p,t,x,xB ah,v8] 255,rl 1 xF 2 v8 au,bx c [xB ai,v9] 104,rl 1 xF 2 v9 av]) ?_ (λ(ag,ah,au,ai,av) _ v9 i7 i8 i9=>?_)
  ·
   refine xW ?_ ?_
   ·refine iQ (jA 2 rfl (jB λz7 c7=>(jko 4 (λK4 H=>ih z7 c7 _ H.hN K4 G (H.u a9) T (H.u aa) (H.u ab) (H.u z) (zI c4) (H.u a7) (H.u a8) (ae.to H.sm) E) λv10 v11 b6 b7 b8=>xA rfl ?_)));exact jf ⟨_,_,b6,b7,b8,ls⟩
   refine xUv ?_;exact jf ⟨_,_,xU,(zI c4),E,ls⟩
  refine oQ (jA 3 rfl (oH e2 (jb 0 e3 (jo rfl (jB λz8 c8=>(js [1,0,2,3] rfl (jh (λH=>H.lw) (jT c8 λv12=>jh (λH=>H.tl) (jo rfl (oH e2 (js [1,0,2,3] rfl (jW (hv:=(λH=>(H.l 1 rfl).one)) e3 (qS ?_)))))))))))));refine oD 2 rfl (xW ?_ ?_)
  ·refine xN (qA 2 rfl (dB (zC (cV (eT ?_)))));exact j1 (rt rfl) ⟨_,_,i7,i8,i9,lv⟩
  refine qM (oE m1 (xA rfl ?_));exact jg ⟨_,_,i8,i9,ls⟩
 refine oQ (xX rfl ?_);exact j1 (rt rfl) ⟨_,_,xU,i3,i4,lv⟩
theorem xBc {d:Int} {I:List Rel} {e:Int} {K:List (List lookT)} {L:List (List Bool)} {M:List Int} {i:Int} {O:List Int} {z:A6} {A f:Int} {C:List Int} (r:Int×Int×(List Int)×Int×(List Int)) (hR:zF N d I e K L M i O z A f C=some r) {y:Nat} {j:Vl} {p:Vl} {t:Vl} {x:Vl} {P:Vl} {E:Vl} {F:Vl} {H:Nat} {h:Nat} {G:Vl} {S:List Nat} (c:Wd) (hN:HN B c) (S0:Sep S B c c [bx y [xB d,j,xB e,p,t,x,xB i,P] 255,rl 1 xF 2 P O,bx h [xB f,G] 104,rl 1 xF 2 G C]) (X:xM d) (Y:Bo B c (Sl 2 oR) j I) (Z:xM e) (a0:Bo B c (Sl 1 (zV 2 kL)) p K) (a1:Bo B c (Sl 1 (zV 1 aF)) t L) (a2:Bo B c (Sl 1 xF) x M) (a3:xM i) (U:Bo B c (Pt 2 xC) E z) (W:Bo B c (Pt 1 xF) F A) (a4:Bk B c H [.func (.func 158) #[] #[E,F]] 210) (T:xM f):Calls prog 211 #[oU y,.func (.func 212) #[] #[oU H,oU h]] c (Gt B c S (.v λQ=>.v λR=>.fa (xM r.1) <| .fa (xM r.2.1) <| .fa (xM r.2.2.2.1) <| .st (xB r.1) λD=>bx y [xB d,j,xB e,p,t,x,xB r.2.1,Q] 255::rl 1 xF 2 Q r.2.2.1::bx h [xB r.2.2.2.1,R] 104::rl 1 xF 2 R r.2.2.2.2::D)):= xAw N r hR c hN S0 X Y Z a0 a1 a2 a3 U W a4 T
def fU (N:Nat) (d:Int) (e:List Rel) (f:Int) (h:List (List lookT)) (i:List (List Bool)) (j:List Int) (p:Int) (t:List Int) (x:A6) (y:Int):Option (Op×Int×Int×(List Int)):= xH (zF N d e f h i j p t x y 0 ([])) λc=>if (c.1==(-1)) then some ((Op.mk c.2.2.2.1 c.2.2.2.2),0,c.2.1,c.2.2.1) else if (c.1==0) then some ((Op.mk 0 ([])),6,c.2.1,c.2.2.1) else some ((Op.mk 0 ([])),c.1,c.2.1,c.2.2.1)
theorem xAy {e:Int} {E:List Rel} {f:Int} {F:List (List lookT)} {G:List (List Bool)} {I:List Int} {i:Int} {K:List Int} {L:A6} {M:Int} (r:Op×Int×Int×(List Int)) (hR:fU N e E f F G I i K L M=some r) {h:Nat} {j:Vl} {p:Vl} {t:Vl} {x:Vl} {O:Vl} {y:Vl} {z:Vl} {R:List Nat} (c:Wd) (hN:HN B c) (S0:Sep R B c c [bx h [xB e,j,xB f,p,t,x,xB i,O] 255,rl 1 xF 2 O K]) (S:xM e) (T:Bo B c (Sl 2 oR) j E) (U:xM f) (W:Bo B c (Sl 1 (zV 2 kL)) p F) (X:Bo B c (Sl 1 (zV 1 aF)) t G) (Y:Bo B c (Sl 1 xF) x I) (Z:xM i) (a0:Bo B c (Pt 2 xC) y L) (a1:Bo B c (Pt 1 xF) z M):Calls prog 157 #[oU h,.func (.func 158) #[] #[y,z]] c (Gt B c R (.v λP=>.v λQ=>.fa (xM r.1.arity) <| .fa (xM r.2.1) <| .fa (xM r.2.2.1) <| .st (.tuple #[.agg #[xB r.1.arity,P],xB r.2.1]) λD=>rl 1 xF 2 P r.1.table::bx h [xB e,j,xB f,p,t,x,xB r.2.2.1,Q] 255::rl 1 xF 2 Q r.2.2.2::D)):=by
 unfold fU at hR
 revert r
 refine jin func157 [(0,oU h),(1,.func (.func 158) #[] #[y,z])] S0 λr=>?_;refine xN (jX e2 λ_=>aM rfl λb1=>xK rfl (qC e5 (aM rfl λb2=>kG e3 (qS (jo rfl (cU e2 (jh (λH=>H.nl 1 xF 2) (js [3,0,1,2,4,5] rfl (cM λw1 X1 ab _ g1 d A _=>?_)))))))));have K1:=g1.bk;refine jB λz1 c1=>(js [3,4,1,0,2] rfl (jko 4 (λK2 H=>xBc z1 c1 _ H.hN K2 S (H.u (d T)) U (H.u (d W)) (H.u (d X)) (H.u (d Y)) Z (H.u (d a0)) (H.u (d a1)) (K1.to H.sm) xU) λv1 v2 i1 C i3=>xI rfl (jo rfl (xJu (oD 2 rfl (xW ?_ ?_))))))
 ·refine xN (aH 2 e3 (js [4,0,1,2,3] rfl ?_));refine kG (hv:=(λH=>oc rfl (oc (H.l 4 rfl).one on))) e3 (bE 1 rfl (kY A ?_));exact mA (λH=>H.s [5,2,3] rfl rfl) (cN 1 e2) (rt rfl) ⟨_,_,i3,xU,C,lv⟩
 refine xN (oD 2 rfl (xW ?_ ?_))
 ·refine xN (qC e5 (js [4,0,1,2,3] rfl (kG e3 (bE 1 rfl (kY A ?_)))));exact mA (λH=>(H.nl 1 xF 2).s [0,3,4] rfl rfl) (cN 1 e2) (rt rfl) ⟨_,_,xU,sM,C,lv⟩
 refine wA (qC e5 (jo rfl (js [4,0,1,2,3] rfl (kG e3 (xX rfl (kY A ?_))))));exact mA (λH=>(H.nl 1 xF 2).s [0,3,4] rfl rfl) (cN 1 e2) (rt rfl) ⟨_,_,xU,i1,C,lv⟩
end
section
open Go.Proofs.Tryz
set_option maxHeartbeats 1000000
set_option maxRecDepth 100000
open Go.RowKit
variable {B:Nat->Prop} {N:Nat}
def zK (N:Nat) (c:A6) (e h:Int):Option (Op×Int):= xH (lJ (A6.mk c.size c.rels) e) λi=>if (i != 0) then some ((Op.mk 0 ([])),i) else xH (xGn h) λj=>if (!j) then some ((Op.mk 0 ([])),2) else xH (pR (A6.mk c.size c.rels) e) λp=>if (decide (4000<p)) then some ((Op.mk 0 ([])),3) else xH (pG N (A6.mk c.size c.rels) e) λd=>xH (fU N d.1 d.2.1 d.2.2.1 d.2.2.2.1 d.2.2.2.2.1 d.2.2.2.2.2.1 d.2.2.2.2.2.2.1 ([]) (A6.mk c.size c.rels) h) λf=>some ((Op.mk f.1.arity f.1.table),f.2.1)
theorem mG {y d e} {j} {p} (hN:HN B p) (F:Bo B p (qR 2 xC) j y) (i:xM d) (t:xM e):∀ r,zK N y d e=some r->CG B p 108 #[j,xB d,xB e] (.v λx=>.fa (xM r.1.arity) <| .fa (xM r.2) <| .st (.tuple #[.agg #[xB r.1.arity,x],xB r.2]) λD=>rl 1 xF 2 x r.1.table::D):=by
 refine vW func108 [(0,j),(1,xB d),(2,xB e)] hN λr=>?_;obtain⟨v1,rfl,f,h⟩:=xC.o F;refine jX e2 λ_=>jX e2 λ_=>aM rfl λa2=>xI rfl (aH 2 e3 (jo rfl (jB λG I=>?_)));refine jk (λH=>xEi aA (xC.m f (H.a h)) i G I) λA=>xK rfl (oD 2 rfl (xW ?_ ?_))
 ·refine xN (qC e5 (jo rfl (kG e3 (xT rfl ?_))));exact mA (λH=>(H.nl 1 xF 2).s [0] rfl rfl) (cN 0 e2) (rt rfl) ⟨_,xU,A,lv⟩
 refine mB (jb 1 e3 (jB λK L=>(jk (λH=>xSl aA t K L) (oD 2 rfl (xW ?_ ?_)))))
 ·refine xN (qC e5 (kG e3 (bE 1 rfl ?_)));exact mA (λH=>(H.nl 1 xF 2).s [0] rfl rfl) (cN 0 e2) (rt rfl) ⟨_,xU,pV,lv⟩
 refine xN (aH 2 e3 (jo rfl (jB λM O=>?_)));refine jk (λH=>xHa aA (xC.m f (H.a h)) i M O) λa3=>oD 2 rfl (xW ?_ ?_)
 ·refine xN (qC e5 (kG e3 (bE 1 rfl ?_)));exact mA (λH=>(H.nl 1 xF 2).s [0] rfl rfl) (cN 0 e2) (rt rfl) ⟨_,xU,iV,lv⟩
 refine wA (aH 2 e3 (jo rfl (jB λP Q=>?_)));refine jkB (λH=>xGq H.hN (xC.m f (H.u h)) i P Q) λb1 v2 v3 v4 v5 C R S T=>cU e2 (jh (λH=>H.nl 1 xF 2) (js [2,3,4,7,6,0,1,5] rfl (jh (λH=>H.mg) (jh (λH=>H.mg) (jh (λH=>H.mg) (jh (λH=>H.mg) (cM λw1 X1 N1 _ c z E _=>?_)))))));have U:=c.l.r.bk;have W:=c.r.bk;refine jB λX Y=>(js [1,0,2] rfl (jko 2 (λZ H=>xAy X Y _ H.hN Z C (H.u (z R)) S (H.u c.l.l.l.l.ld) (H.u c.l.l.l.r.ld) (H.u c.l.l.r.ld) T (xC.b (U.to H.sm) f (H.u (z h))) (c1I (W.to H.sm) t)) λa4 _ i4 i5 _=>jA 2 rfl (js [3,0,1,2] rfl ?_)));refine kG (hv:=(λH=>oc rfl (oc (H.l 1 rfl).one on))) e3 (xX rfl (kY E (jh (λH=>H.um) (jh (λH=>H.um) (jh (λH=>H.um) (jh (λH=>H.um) ?_))))));exact mA (λH=>H.s [6] rfl rfl) (cN 5 e2) (rt rfl) ⟨_,i4,i5,lv⟩
def gQ (c:Int):Option Bool:= qD (σ:=Bool) (if (c==2) then some (.nx true) else some (.nx (c==3))) λd=>some d
theorem tV {c} {d} (hN:HN B d) (f:xM c):∀ r,gQ c=some r->CG B d 109 #[xB c] (sB r):=by
 refine vW func109 [(0,xB c)] hN λr=>?_;refine xR rfl (vA (λe=>.st [(2,.bool e)] []) ?_ (λ_=>?_))
 ·
  refine iQ (jA 3 rfl (dZ 5 (λ_=>?_) (λ_=>?_)))
  ·exact oD 4 rfl (jf ls)
  exact oD 4 rfl (jf ls)
 exact lY (qJ lv)
def sA (c:List Int) (d:Int):Option Int:= xH (ix c 0) λf=>xH (ix c 1) λe=>xH (ck (f - e)) λh=>xH (ix c 2) λi=>xH (ck (h+i)) λj=>xH (ck (j+d)) λp=>xH (rm p d) λt=>some t
theorem xFh {i j} {d e} {c} (hN:HN B c) (f:Bo B c (Sl 1 xF) d i) (p:Bo B c (Pt 1 xF) e j):∀ r,sA i j=some r->CG B c 161 #[d,e] (sI r):=by
 refine vW func161 [(0,d),(1,e)] hN λr=>?_;refine xR rfl (jQ (vY 1 rfl (jB λL x=>(gU f x λ_ y=>kN y λ_=>vY 1 rfl (jB λK z=>(gU f z λ_ A=>kN A λ_=>jB λM C=>(jqv (λF H w l=>xBi F rfl rfl C) (vY 1 rfl ?_))))))));refine jB λN D=>(gU f D λ_ E=>kN E λ_=>jB λO G=>(jqv (λF H w l=>wF F rfl rfl G) (kN p λ_=>jB λP h=>(jqv (λF H w l=>wF F rfl rfl h) (kN p λI=>jB λQ t=>(jqv (λF H w l=>xEv F rfl rfl t) (vY 1 rfl (lE (lY ?_)))))))));exact qJ ⟨(xHh t (zI h) I),lv⟩
def iO (N:Nat) (c:Int):Option Op:= xH (yG N c 3 (λe=>sA e c)) λd=>some ((Op.mk d.arity d.table))
theorem xAj {c} {f} (hN:HN B f) (d:xM c):∀ r,iO N c=some r->CG B f 112 #[xB c] (.v λe=>.fa (xM r.arity) <| .st (.agg #[xB r.arity,e]) λD=>rl 1 xF 2 e r.table::D):=by
 refine vW func112 [(0,xB c)] hN λr=>?_;refine jX e2 λ_=>aM rfl λ_=>qS (jb 1 e3 (cU e2 (jB λi j=>(jk (λH=>xIj aA d iV call161 (λy r h W p z f0=>xFh aA f0 ((c1I (H.g 1 rfl).bk d).w p) r h) i j) λx t=>js [1,0,2] rfl ?_))));refine kG (hv:=(λH=>oc rfl (oc (H.l 1 rfl).one on))) e3 (lU ?_);exact j1m (λH=>H.s [1] rfl rfl) (cN 0 e2) ⟨_,t,lv⟩
def fQ (N:Nat) (d:Int) (c:Rel):Option Bool:= qD (σ:=Bool) (if (decide (0<(c.tuples.length:Int))) then xH (iO N d) λe=>xH (eM N d (Op.mk e.arity e.table) (Rel.mk c.arity c.tuples)) λf=>some (.nx f) else some (.nx false)) λh=>some h
theorem xAp {c j} {e} {f} (hN:HN B f) (i:xM c) (z:Bo B f (qR 2 oR) e j):∀ r,fQ N c j=some r->CG B f 111 #[xB c,e] (sB r):=by
 refine vW func111 [(0,xB c),(1,e)] hN λr=>?_;obtain⟨M,rfl,A,h⟩:=oR.o z;refine jX e2 λ_=>xR rfl (vA (λC=>.st [(4,.bool C)] []) ?_ (λ_=>?_))
 ·
  refine jbs (λd=>?_) (λd=>?_)
  ·refine jB λD E=>(jB λt F=>(cM λ_ _ _ _ G I x _=>?_));have p:=G.bk;refine jD (kJ 0 rfl e2 (gH 1 rfl p e2 (jvL 2 rfl h λ_=>zG [3] rfl (jeq 8 d (zG [4,5,6] rfl (rQ 8 rfl p e2 (jE 7 rfl (jk (λH=>xAj aA i D E) λ_ K=>qT (jE 9 rfl ?_)))))))));exact jk (λH=>xFf aA i (vX.m K (H.l 0 rfl)) (oR.m A (H.a (I h))) t F) (qT (zG [10,11] rfl (gV (dA (js [] rfl (kY x (js [] rfl (jf ls))))))))
  exact cM λ_ _ _ _ L _ y _=>(jD (kJ 0 rfl e2 (gH 1 rfl L.bk e2 (jvL 2 rfl h λ_=>zG [3] rfl (jeq 8 d (zG [4,5,6,7,8,9,10,11] rfl (gV (dA (kY y (js [] rfl (jf ls)))))))))))
 exact lY (qJ lv)
def lQ (N:Nat) (c:Rel) (d:A6):Option Bool:= xH (fQ N d.size (Rel.mk c.arity c.tuples)) λe=>some ((!e))
theorem xEc {f h} {d e} {c} (hN:HN B c) (j:Bo B c (qR 2 oR) d f) (p:Bo B c (Pt 2 xC) e h):∀ r,lQ N f h=some r->CG B c 110 #[d,e] (sB r):=by
 refine vW func110 [(0,d),(1,e)] hN λr=>?_;obtain⟨C,rfl,t,x⟩:=oR.o j;refine jX e2 λ_=>xK rfl (kZ p xC.f0 λ_ i=>aJ i λy=>aH 0 e3 (jB λz A=>?_));exact jk (λH=>xAp aA y (oR.m t (H.a x)) z A) (qZ 2 rfl (qJ lv))
def nT (N:Nat) (c:A6):Option (Int×Op×Int):= xH (zP (A6.mk c.size c.rels)) λj=>if (!j) then some (0,(Op.mk 0 ([])),1) else xH (vU c.rels (λe=>nY e)) λp=>qD (σ:=Unit) (if (!p) then qD (σ:=Unit) (qU (λt s=>match s with | _=>xH (cK N c.size 1 (t:Int)) λd=>xH (cP N (A6.mk c.size c.rels) (Op.mk d.arity d.table)) λx=>if x then some (.ret (.ret (1,(Op.mk d.arity d.table),0))) else some (.go ())) c.size.toNat 0 ()) λ_=>some (.nx ()) else some (.nx ())) λ_=>xH (zK N (A6.mk c.size c.rels) 2 6) λf=>if (f.2==0) then some (2,(Op.mk f.1.arity f.1.table),0) else xH (zK N (A6.mk c.size c.rels) 3 7) λh=>if (h.2==0) then some (3,(Op.mk h.1.arity h.1.table),0) else qD (σ:=Bool) (xH (gQ c.size) λy=>if y then xH (vU c.rels (λe=>lQ N e (A6.mk c.size c.rels))) λz=>some (.nx (!z)) else some (.nx false)) λA=>if A then xH (iO N c.size) λi=>some (4,(Op.mk i.arity i.table),0) else some (0,(Op.mk 0 ([])),6)
theorem xGr {f} {t} {x} (hN:HN B x) (K:Bo B x (qR 2 xC) t f):∀ r,nT N f=some r->CG B x 64 #[t] (.v λy=>.fa (xM r.1) <| .fa (xM r.2.1.arity) <| .fa (xM r.2.2) <| .st (.tuple #[xB r.1,.agg #[xB r.2.1.arity,y],xB r.2.2]) λD=>rl 1 xF 2 y r.2.1.table::D):=by
 refine vW func64 [(0,t)] hN λr=>?_;obtain⟨p,rfl,c,i⟩:=xC.o K;refine jX e2 λd=>jo rfl (aM rfl λe=>xI rfl (aH 1 e3 (jB λE L=>?_)));refine jk (λH=>fJ aA (xC.m c (H.a i)) E L) (xA rfl (xW ?_ ?_))
 ·refine xN (qC e5 (jo rfl (kG e3 (xT rfl ?_))));exact j3m (λH=>(H.nl 1 xF 2).s [0] rfl rfl) (rt rfl) (cN 0 e2) (rt rfl) ⟨_,xU,xU,zD,lv⟩
 refine qY (oH e2 (jb 1 e3 (jB λM O=>(jk (λH=>aL aA (H.a i) call105 (λP r h W z Q f0=>xCl aA f0 r h) M O) (xA rfl ?_)))));refine vA (λ_=>.st [(1,oU d),(3,oU e)] [bx e [xB 0,aB] 104,bx d [xB f.size,p] 34]) ?_ (λ_=>?_)
 ·
  refine xW ?_ ?_
  ·
   refine xN (oH e2 (jb 1 e3 (xA rfl ?_)));refine vA (λ_=>.st [(1,oU d),(3,oU e)] [bx e [xB 0,aB] 104,bx d [xB f.size,p] 34]) ?_ (λ_=>?_)
   ·
    refine zH ?_;refine jc (λA _=>.st [(21,xB (A:Int)),(1,oU d),(3,oU e),(20,xB f.size)] [bx e [xB 0,aB] 104,bx d [xB f.size,p] 34]) ls (λ_ _ _ j=>?_) (λ_ A _ j=>?_)
    ·have R:=vJ j;exact xN (xR rfl (zX R (xP (jf ls))))
    refine xN (xR rfl (kA (qW j) (oJ (qH (kW 2 rfl (oH e2 (jb 1 e3 (jo rfl (jB λS T=>(jk (λH=>xAl aA c zD (dL j c) S T) λv2 C=>aM rfl (λ_=>?_)))))))))));refine kG (hv:=(λH=>oc rfl (oc (H.l 1 rfl).one on))) e3 (qS (aH 3 e3 (aH 0 e3 (jB λU X=>?_))));refine jk (λH=>wO aA (xC.m c (H.a i)) (vX.m C (H.l 1 rfl)) U X) (aI (xW ?_ ?_))
    ·refine a_s (cM λ_ _ _ _ Y _ F _=>(jD (rQ 0 rfl Y.bk e2 (zG [1] rfl (jE 2 rfl (js [1,0,2] rfl ?_))))));refine kG (hv:=(λH=>oc rfl (oc (H.l 1 rfl).one on))) e3 (qT (zG [3] rfl (gV (xQf (dB (zC (cV (eT (cV (eT (kY F ?_)))))))))));exact j3m (λH=>H.s [2] rfl rfl) (rt rfl) (cN 1 e2) (rt rfl) ⟨_,zD,C,xU,lv⟩
    exact qM (oE (vZ j c) (xA rfl (js [2,3] rfl (jg ls))))
   exact dA (jf ls)
  exact xUv (jf ls)
 refine bX (aH 1 e3 (jB λZ c5=>?_));refine jk (λH=>mG aA (xC.m c (H.a i)) pV sM Z c5) λv3 i3 _=>jA 3 rfl (aM rfl (λ_=>?_));refine kG (hv:=(λH=>oc rfl (oc (H.l 1 rfl).one on))) e3 (xK rfl (oD 2 rfl (xW ?_ ?_)))
 ·refine a_s (cM λ_ _ _ _ g2 _ G _=>(jD (rQ 0 rfl g2.bk e2 (zG [1] rfl (jE 2 rfl (js [1,0,2] rfl ?_))))));refine kG (hv:=(λH=>oc rfl (oc (H.l 1 rfl).one on))) e3 (qT (zG [3] rfl (gV (xSb (kY G ?_)))));exact j3m (λH=>H.s [2] rfl rfl) (rt rfl) (cN 1 e2) (rt rfl) ⟨_,pV,i3,xU,lv⟩
 refine qY (aH 3 e3 (jB λz5 c6=>?_));refine jk (λH=>mG aA (xC.m c (H.a i)) iV xNy z5 c6) λv4 i4 _=>jA 3 rfl (aM rfl (λ_=>?_));refine kG (hv:=(λH=>oc rfl (oc (H.l 1 rfl).one on))) e3 (xK rfl (oD 2 rfl (xW ?_ ?_)))
 ·refine a_s (cM λ_ _ _ _ g3 _ I _=>(jD (rQ 0 rfl g3.bk e2 (zG [1] rfl (jE 2 rfl (js [3,0,1,2,4] rfl ?_))))));refine kG (hv:=(λH=>oc rfl (oc (H.l 1 rfl).one on))) e3 (qT (zG [3] rfl (gV (xSb (kY I ?_)))));exact j3m (λH=>H.s [2] rfl rfl) (rt rfl) (cN 1 e2) (rt rfl) ⟨_,iV,i4,xU,lv⟩
 refine xLr ?_;refine vA (λs1=>.st [(1,oU d),(3,oU e),(58,.bool s1)] [bx e [xB 0,aB] 104,bx d [xB f.size,p] 34]) ?_ (λ_=>?_)
 ·
  refine iQ (oH e2 (jb 5 e3 (jB λz6 c7=>(jk (λH=>tV aA c z6 c7) (jo rfl (dZ 52 (λ_=>?_) (λ_=>?_)))))))
  ·exact oH e2 (jb 5 e3 (cU e2 (jB λz7 c8=>(jk (λH=>aL aA (H.a i) call110 (λP r h W z Q f0=>xEc aA f0 ((xC.b (H.g 5 rfl).bk c (H.a i)).w z) r h) z7 c8) (oD 2 rfl (js [4,5] rfl (jf ls)))))))
  exact oD 6 rfl (js [4,5] rfl (jf ls))
 refine dA (xW ?_ ?_)
 ·refine xN (oH e2 (jb 1 e3 (jB λz8 c9=>(jk (λH=>xAj aA c z8 c9) λv5 i5=>jo rfl (js [1,0,2] rfl ?_)))));refine kG (hv:=(λH=>oc rfl (oc (H.l 1 rfl).one on))) e3 (xT rfl ?_);exact j3m (λH=>H.s [1] rfl rfl) (rt rfl) (cN 0 e2) (rt rfl) ⟨_,tY,i5,xU,lv⟩
 refine qG (qC e5 (jo rfl (kG e3 (xX rfl ?_))));exact j3m (λH=>(H.nl 1 xF 2).s [0] rfl rfl) (rt rfl) (cN 0 e2) (rt rfl) ⟨_,xU,xU,sM,lv⟩
def xCb (c d:List Int):Option (List Int):= qD (σ:=List Int) (oM (λp (e:Int) f=>xH (ix c e) λh=>xH (ap f ([h])) λi=>some (.go i)) d 0 []) λj=>some j
theorem xMt {t h} {c d} {e} (hN:HN B e) (C:Bo B e (Sl 1 xF) c t) (x:Bo B e (Sl 1 xF) d h):∀ r,xCb t h=some r->CG B e 231 #[c,d] (.v λp=>.st (p) λD=>rl 1 xF 2 p r::D):=by
 refine vW func231 [(0,c),(1,d)] hN λr=>?_;refine xK rfl (jR0 xF λP=>xI rfl (jo rfl (jL x λy=>xA rfl (vA (λE=>.v λi=>.st [(5,i)] [rl 1 xF 2 i E]) ?_ (λ_ i=>?_)))))
 ·
  refine zH ?_;refine jl (λz A=>.v λj=>.st [(11,xB (z:Int)),(0,c),(5,j),(9,d),(10,xB (h.length:Int))] [rl 1 xF 2 j A]) ⟨_,ls⟩ (λ_ A _ F j=>?_) (λz _ _ f G _=>?_)
  ·have I:=oO F;refine xN (xR rfl (zX I (xP ?_)));exact jf ⟨_,ls⟩
  refine xN (xR rfl (kA (xZ f) (oJ ?_)));have j2:=bV (Ae f) y;refine qH (jI x G λ_ K=>aJ K λ_=>jo rfl (eR (jA 3 rfl (jB λQ L=>(jI C L λ_ M=>aJ M λN=>iX (λH=>Eo.int N) λ_=>jB λR O=>(js [1,0] rfl (jPL O λS=>zL 1 rfl ?_)))))));refine oE (qE f y) (xA rfl ?_);exact jg ⟨_,ls⟩
 refine oQ (qZ 2 rfl ?_);exact j1 (rt rfl) ⟨_,lv⟩
def zS (N:Nat) (c:List (List Int)) (i:List Int) (j:(List Int)->(List Int)->Option Int):Option (Int×Bool):= qD (σ:=Int×Int) (lF (λs=>match s with | (d,e)=>if (decide (d<e)) then xH (ck (d+e)) λp=>xH (nn p) λh=>xH (ix c (h / 2)) λt=>xH (j t i) λx=>if (decide (x<0)) then xH (ck ((h / 2)+1)) λy=>some (.go (y,e)) else some (.go (d,(h / 2))) else some (.brk (d,e))) N (0,(c.length:Int))) λ(f,D)=>qD (σ:=Int×Bool) (if (decide (f<(c.length:Int))) then xH (ix c f) λz=>xH (j z i) λA=>some (.nx (f,(A==0))) else some (.nx (f,false))) λ(B,C)=>some (B,C)
theorem eB {p G I} {h i d f} {e} (hN:HN B e) (t:Bo B e (Sl 1 (zV 1 xF)) h p) (K:Bo B e (Sl 1 xF) i G) (E:∀ args w,(callFunc d args).run prog w= .ok (.enter d args) w) (F:∀ (L M:List Int) (r:Int),I L M=some r->∀ W,Below e.heap.size e W->∀ (O P:Vl),Bo (All W) W (Sl 1 xF) O L->Bo (All W) W (Sl 1 xF) P M->Calls prog d ([O,P]++f:List Vl).toArray W (Gt (All W) W [] (sI r))):∀ r,zS N p G I=some r->CG B e 267 #[h,i,.func (.func d) #[] f.toArray] (.fa (xM r.1) <| .st (.tuple #[xB r.1,.bool r.2]) λD=>D):=by
 refine vW func267 [(0,h),(1,i),(2,.func (.func d) #[] f.toArray)] hN λr=>?_;refine kW 2 rfl (jo rfl (jL t λi1=>xK rfl (xFz 3 rfl (vA (λ(x,Q)=>.fa (xM x) <| .fa (xM Q) <| .st [(0,h),(1,i),(2,.func (.func d) #[] f.toArray),(8,xB (p.length:Int)),(9,xB x)] []) ?_ (λ(x,Q) R _=>?_)))))
 ·
  refine zH ?_;refine jw (λ(y,z)=>.fa (xM y) <| .fa (xM z) <| .st [(0,h),(1,i),(2,.func (.func d) #[] f.toArray),(8,xB (p.length:Int)),(9,xB y),(10,xB z)] []) ⟨xU,i1,ls⟩ (λ_ (y,z) S T=>?_);refine xV (oD 3 rfl (xW ?_ ?_))
  ·
   refine xCs (jA 2 rfl (jB λz1 A=>(kE A (jB λj c=>?_))))
   have U:xM j:=by rw[(wD c).2];exact(zI A)
   refine jU1 (zI A) c (jU2 rfl (jU3 (xYx U (wD (show nn j=some j by rw[(wD c).2];exact((wD c).2.symm ▸ c))).1) (xK rfl (jA 3 rfl (jB λz3 c3=>(jI t c3 λ_ h1=>aT h1 λ_ Z=>jo rfl (jB λz4 c4=>?_)))))));refine jkV E e2 (λH=>F _ _ z4 c4 _ H.bl _ _ (H.a Z) (H.a K)) λab=>xA rfl (xW ?_ ?_)
   ·refine iQ (jo rfl (jB λz5 X=>(kE X (jo rfl (xNv ?_)))));exact jg ⟨(zI X),T,ls⟩
   refine iQ (jA 2 rfl (xNv ?_));exact jg ⟨S,(xYx U (wD (show nn j=some j by rw[(wD c).2];exact((wD c).2.symm ▸ c))).1),ls⟩
  refine mK (jbk (wI ?_));exact jf ⟨S,T,ls⟩
 refine xNh (vA (λ(C,Y)=>.fa (xM C) <| .st [(6,xB C),(7,.bool Y)] []) ?_ (λ(C,Y) i6=>?_))
 ·
  refine iQ (jA 5 rfl (dZ 39 (λ_=>?_) (λ_=>?_)))
  ·refine jA 3 rfl (jB λz6 c6=>(jI t c6 λ_ h2=>aT h2 λ_ h3=>jo rfl (jB λz7 c7=>?_)));refine jkV E e2 (λH=>F _ _ z7 c7 _ H.bl _ _ (H.a h3) (H.a K)) λac=>oD 4 rfl ?_;exact jf ⟨R,ls⟩
  refine oD 11 rfl ?_;exact jf ⟨R,ls⟩
 refine lY ?_;exact j2 (rt rfl) (rt rfl) ⟨i6,lv⟩
def pA (c d:List Int):Option Int:= xH (kB c d) λe=>some e
theorem xGt {f h} {d e} {c} (hN:HN B c) (j:Bo B c (Sl 1 xF) d f) (p:Bo B c (Sl 1 xF) e h):∀ r,pA f h=some r->CG B c 268 #[d,e] (sI r):=by
 refine vW func268 [(0,d),(1,e)] hN λr=>?_;refine xK rfl (jA 2 rfl (jB λt x=>(jk (λH=>gD aA (H.a j) (H.a p) t x) λi=>xX rfl ?_)));exact qJ ⟨i,lv⟩
def lM (N:Nat) (c:Rel) (d:List Int):Option Bool:= xH (zS N c.tuples d (λe f=>pA e f)) λh=>some h.2
theorem uE {f i} {d e} {c} (hN:HN B c) (p:Bo B c (qR 2 oR) d f) (t:Bo B c (Sl 1 xF) e i):∀ r,lM N f i=some r->CG B c 230 #[d,e] (sB r):=by
 refine vW func230 [(0,d),(1,e)] hN λr=>?_;obtain⟨z,rfl,A,x⟩:=oR.o p;exact jX e2 λ_=>xK rfl (oH e2 (jb 0 e3 (jo rfl (jB λy j=>(jk (λH=>eB aA (H.a x) (H.a t) call268 (λC D r h W E F G f0 f1=>xGt aA f0 f1 r h) y j) λ_=>kW 5 rfl (qZ 2 rfl (qJ lv)))))))
def eL (N:Nat) (c:Con) (e:A6) (f:(List Int)):Option Bool:= xH (ix e.rels c.rel) λh=>xH (xCb f c.scope) λi=>xH (lM N h i) λd=>some ((!d))
theorem xHk {p t x} {f h i} {c} (hN:HN B c) (A:Bo B c (qR 2 vH) f p) (C:Bo B c (Pt 2 xC) h t) (D:Bo B c (Pt 1 (zV 1 xF)) i x):∀ r,eL N p t x=some r->CG B c 229 #[f,h,i] (sB r):=by
 refine vW func229 [(0,f),(1,h),(2,i)] hN λr=>?_;obtain⟨S,rfl,T,E⟩:=vH.o A;refine jX e2 λ_=>xR rfl (jB λU F=>(jB λG I=>(jB λz K=>(cM λ_ _ _ e L j d _=>?_))));have y:=L.bk;refine jD (gR 0 rfl C xC.f1 λ_ M=>rB (s:=λH w l=>(e.trans (Sm.mono (H.v w l) d.2.2))) 1 rfl M λ_ O=>kJ 2 rfl e2 (gH 3 rfl y e2 (nM 4 rfl O F λ_ P=>xFu (s:=λH w l=>(e.trans (Sm.mono (H.v w l) d.2.2))) 5 rfl P λ_ Q=>rB (s:=λH w l=>(e.trans (Sm.mono (H.v w l) d.2.2))) 6 rfl D λ_ R=>kJ 7 rfl e2 (gH 8 rfl y e2 (jE 9 rfl (jk (λH=>xMt aA (H.a (j R)) (H.a (j E)) G I) λ_=>qT (jE 10 rfl (jk (λH=>uE aA (H.a (j Q)) (H.l 0 rfl) z K) ?_))))))));exact qT (zG [11,12] rfl (gV (lY (kY d (qJ lv)))))
def nR (N:Nat) (c:A6) (d:A7) (e:List Int):Option Int:= xH (aO d.cons (λf=>eL N f (A6.mk c.size c.rels) e)) λh=>some h
theorem xLb {i j p} {d e f} {c} (hN:HN B c) (z:Bo B c (qR 2 xC) d i) (A:Bo B c (qR 2 xJ) e j) (t:Bo B c (Sl 1 xF) f p):∀ r,nR N i j p=some r->CG B c 163 #[d,e,f] (sI r):=by
 refine vW func163 [(0,d),(1,e),(2,f)] hN λr=>?_;obtain⟨K,rfl,C,D⟩:=xC.o z;refine jX e2 (λ_=>?_);obtain⟨I,rfl,L,E⟩:=xJ.o A;refine jX e2 λ_=>jX1 rfl (λH=>(H.a t).one) λ_=>xK rfl (oH e2 (jb 1 e3 (cU e2 (jB λF G=>(jk (λH=>iA aA (H.a E) call229 (λM r h W x O f0=>xHk aA f0 ((xC.b (H.g 2 rfl).bk C (H.a D)).w x) ((c1S (H.g 0 rfl).bk (H.a t)).w x) r h) F G) λy=>xX rfl ?_)))));exact qJ ⟨y,lv⟩
def fB (N:Nat) (c:A6) (d:A7) (e:Int):Option (A9×Int):= xH (aN (A6.mk c.size c.rels) (A7.mk d.vars d.cons)) λi=>if (!i) then some ((A9.mk 0 ([]) ([]) ([]) ([])),1) else xH (fD c.size e) λj=>if (!j) then some ((A9.mk 0 ([]) ([]) ([]) ([])),2) else xH (cK N c.size 1 e) λf=>xH (cP N (A6.mk c.size c.rels) (Op.mk f.arity f.table)) λp=>if (!p) then some ((A9.mk 0 ([]) ([]) ([]) ([])),4) else xH (qP ([e]) d.vars) λh=>xH (nR N (A6.mk c.size c.rels) (A7.mk d.vars d.cons) h) λt=>if (decide (0<=t)) then some ((A9.mk 0 ([]) ([]) ([]) ([])),6) else some ((A9.mk 0 h ([]) ([]) ([])),0)
theorem yV {A C d} {i j} {e} (hN:HN B e) (F:Bo B e (qR 2 xC) i A) (G:Bo B e (qR 2 xJ) j C) (f:xM d):∀ r,fB N A C d=some r->CG B e 113 #[i,j,xB d] (.v λz=>.fa (xM r.1.kind) <| .fa (xM r.2) <| .st (.tuple #[.agg #[xB r.1.kind,z,aB,aB,aB],xB r.2]) λD=>rl 1 xF 2 z r.1.values::D):=by
 refine vW func113 [(0,i),(1,j),(2,xB d)] hN λr=>?_;obtain⟨v2,rfl,c,p⟩:=xC.o F;refine jX e2 (λ_=>?_);obtain⟨Z,rfl,t,E⟩:=xJ.o G;refine jX e2 λ_=>aM rfl λ_=>jo rfl (xSh (aH 2 e3 (aH 1 e3 (jB λI K=>?_))));refine jk (λH=>eY aA (xC.m c (H.a p)) (xJ.m t (H.a E)) I K) (oD 2 rfl (xW ?_ ?_))
 ·refine xN (qC e5 (kG e3 (bE 1 rfl ?_)));exact mA (λH=>(H.nl 1 xF 2).s [0] rfl rfl) (cN 0 e2) (rt rfl) ⟨_,xU,zD,lv⟩
 refine xN (oH e2 (jb 2 e3 (jo rfl (jB λL M=>(jk (λH=>tK aA c f L M) (oD 2 rfl (xW ?_ ?_)))))))
 ·refine xN (qC e5 (kG e3 (bE 1 rfl ?_)));exact mA (λH=>(H.nl 1 xF 2).s [0] rfl rfl) (cN 0 e2) (rt rfl) ⟨_,xU,pV,lv⟩
 refine a_s (jB λO P=>(jB λQ R=>(js [2,0,1] rfl (cM λ_ _ _ _ S x h _=>?_))));have y:=S.bk;refine jD (rQ 0 rfl y e2 (kJ 1 rfl e2 (gH 2 rfl y e2 (zG [3] rfl (jE 4 rfl (jk (λH=>xAl aA c zD f O P) λ_ T=>qT (jE 5 rfl ?_)))))));refine jk (λH=>wO aA (xC.m c (H.a (x p))) (vX.m T (H.l 0 rfl)) Q R) (qT (zG [6,7] rfl (gV (dA (xW ?_ ?_)))))
 ·refine xN (qC e5 (js [1,0,2] rfl (kG e3 (bE 1 rfl (kY h ?_)))));exact mA (λH=>(H.nl 1 xF 2).s [0] rfl rfl) (cN 1 e2) (rt rfl) ⟨_,xU,tY,lv⟩
 refine wA (jo rfl (iX (λH=>Eo.int f) λ_=>oH e2 (jb 3 e3 (jB λU W=>(jk (λH=>aX U W _ aA (H.l 0 rfl) t) λv3=>xI rfl (oIq y e2 (aH 4 e3 (jo rfl (jB λX Y=>?_)))))))));refine jk (λH=>xLb aA (xC.m c (H.a (x p))) (xJ.m t (H.a (x E))) (H.l 0 rfl) X Y) λa0=>xA rfl (xW ?_ ?_)
 ·refine xN (qC e5 (js [3,0,1,2,4] rfl (kG e3 (xT rfl (kY h ?_)))));exact mA (λH=>(H.nl 1 xF 2).s [0] rfl rfl) (cN 1 e2) (rt rfl) ⟨_,xU,sM,lv⟩
 refine qG (jo rfl (jk (λH=>gX (H.l 0 rfl).one _ H.hN) (js [3,0,1,2,4] rfl ?_)));refine kG (hv:=(λH=>oc rfl (oc (H.l 1 rfl).one (oc rfl (oc rfl (oc rfl on)))))) e3 (xX rfl (kY h ?_));exact mA (λH=>H.s [2] rfl rfl) (cN 1 e2) (rt rfl) ⟨_,xU,xU,lv⟩
def sU (c:Int) (d:Op):Option Bool:= qD (σ:=Bool) (xH (nG c) λf=>if f then xH (jJ d.arity) λe=>if e then xH (vO c d.arity) λh=>xH (bA c d.table h) λi=>some (.nx i) else some (.nx false) else some (.nx false)) λj=>some j
theorem xMg {c h} {e} {f} (hN:HN B f) (d:xM c) (t:Bo B f (qR 2 vX) e h):∀ r,sU c h=some r->CG B f 232 #[xB c,e] (sB r):=by
 refine vW func232 [(0,xB c),(1,e)] hN λr=>?_;obtain⟨I,rfl,i,x⟩:=vX.o t;refine jX e2 λ_=>xR rfl (vA (λy=>.st [(4,.bool y)] []) ?_ (λ_=>?_))
 ·
  refine jQ (vY 1 rfl (jB λz A=>(jqk (λH=>wM aA d z A) (vY 1 rfl (dZ 7 (λ_=>?_) (λ_=>?_))))))
  ·
   refine sQ e2 (jqb 0 e3 (jB λj C=>(jqk (λH=>yE aA i j C) (vY 2 rfl (dZ 12 (λ_=>?_) (λ_=>?_))))))
   ·exact vY 1 rfl (sQ e2 (jqb 0 e3 (vY 1 rfl (sQ e2 (jqb 0 e3 (jB λD E=>(xSk (λH=>kC aA d i D E) λp=>jB λF G=>(jqk (λH=>lR aA d (H.a x) p F G) (vY 2 rfl (lE (dA (js [] rfl (jf ls)))))))))))))
   exact vY 10 rfl (lE (dA (js [] rfl (jf ls))))
  exact vY 15 rfl (lE (dA (js [] rfl (jf ls))))
 exact lY (qJ lv)
def fZ (N:Nat) (c:A6) (e:A7) (d:Op) (h:Int):Option Int:= qD (σ:=Bool) (xH (aN (A6.mk c.size c.rels) (A7.mk e.vars e.cons)) λf=>if (!f) then some (.nx true) else xH (sU c.size (Op.mk d.arity d.table)) λi=>some (.nx (!i))) λj=>if j then some 1 else qD (σ:=Bool) (xH (zR N c.size (Op.mk d.arity d.table) h) λp=>if (!p) then some (.nx true) else xH (cP N (A6.mk c.size c.rels) (Op.mk d.arity d.table)) λt=>some (.nx (!t))) λx=>if x then some 4 else some 0
theorem tU {f y h c} {i j p} {d} (hN:HN B d) (F:Bo B d (qR 2 xC) i f) (G:Bo B d (qR 2 xJ) j y) (I:Bo B d (qR 2 vX) p h) (D:xM c):∀ r,fZ N f y h c=some r->CG B d 165 #[i,j,p,xB c] (sI r):=by
 refine vW func165 [(0,i),(1,j),(2,p),(3,xB c)] hN λr=>?_;obtain⟨K,rfl,e,z⟩:=xC.o F;refine jX e2 (λA=>?_);obtain⟨Z,rfl,L,M⟩:=xJ.o G;refine jX e2 (λ_=>?_);obtain⟨O,rfl,t,x⟩:=vX.o I;refine jX e2 λC=>jo rfl (oFg ?_);refine vA (λP=>.st [(3,xB c),(4,oU A),(6,oU C),(9,.bool P)] [bx C [xB h.arity,O] 104,bx A [xB f.size,K] 34]) ?_ (λ_=>?_)
 ·
  refine iQ (aH 2 e3 (aH 1 e3 (jB λE Q=>?_)));refine jk (λH=>eY aA (xC.m e (H.a z)) (xJ.m L (H.a M)) E Q) (jA 2 rfl (dZ 14 (λ_=>?_) (λ_=>?_)))
  ·exact oD 7 rfl (js [0,2] rfl (jf ls))
  refine oH e2 (jb 2 e3 (aH 0 e3 (jB λR S=>?_)));exact jk (λH=>xMg aA e (vX.m t (H.a x)) R S) (oD 3 rfl (js [0,2] rfl (jf ls)))
 refine dA (xW ?_ ?_)
 ·refine xN (bE 1 rfl ?_);exact qJ ⟨zD,lv⟩
 refine a_s (vA (λT=>.st [(21,.bool T)] []) ?_ (λ_=>?_))
 ·
  refine iQ (oH e2 (jb 1 e3 (aH 0 e3 (jo rfl (jB λU W=>?_)))));refine jk (λH=>xDn U W _ aA e (vX.m t (H.a x)) D) (jA 2 rfl (dZ 28 (λ_=>?_) (λ_=>?_)))
  ·exact oD 6 rfl (js [] rfl (jf ls))
  refine aH 1 e3 (aH 0 e3 (jB λX Y=>?_));exact jk (λH=>wO aA (xC.m e (H.a z)) (vX.m t (H.a x)) X Y) (oD 3 rfl (js [] rfl (jf ls)))
 refine dA (xW ?_ ?_)
 ·refine xN (bE 1 rfl ?_);exact qJ ⟨tY,lv⟩
 refine wA (xX rfl ?_);exact qJ ⟨xU,lv⟩
def rD (c d:Int):Option (List Int):= qD (σ:=List Int) (qU (λe f=>xH (ck (c+(e:Int))) λh=>xH (ap f ([h])) λi=>some (.go i)) d.toNat 0 []) λj=>some j
theorem xCi {d e} {p} (hN:HN B p) (E:xM d) (i:xM e):∀ r,rD d e=some r->CG B p 233 #[xB d,xB e] (.v λj=>.st (j) λD=>rl 1 xF 2 j r::D):=by
 refine vW func233 [(0,xB d),(1,xB e)] hN λr=>?_;refine xK rfl (jR0 xF λF=>xI rfl (oD 2 rfl (vA (λz=>.v λh=>.st [(5,h)] [rl 1 xF 2 h z]) ?_ (λ_ h=>?_))))
 ·
  refine zH ?_;refine jc (λt x=>.v λf=>.st [(9,xB (t:Int)),(0,xB d),(5,f),(8,xB e)] [rl 1 xF 2 f x]) ⟨_,ls⟩ (λ_ x _ c f=>?_) (λ_ t _ c _=>?_)
  ·have A:=vJ c;refine xN (xR rfl (zX A (xP ?_)));exact jf ⟨_,ls⟩
  refine xN (xR rfl (kA (qW c) (oJ ?_)));have j2:=dL c i;refine qH (jA 2 rfl (eR (jA 3 rfl (jB λG y=>(kE y (iX (λH=>Eo.int (zI y)) λ_=>jB λI C=>(js [1,0] rfl (jPL C λK=>zL 1 rfl (oE (vZ c i) (xA rfl ?_))))))))));exact jg ⟨_,ls⟩
 refine oQ (qZ 2 rfl ?_);exact j1 (rt rfl) ⟨_,lv⟩
def gA (c:A6) (d:A7):Option (List (List Int)):= qD (σ:=List (List Int)) (qU (λj e=>xH (rD 0 c.size) λf=>xH (ap e ([f])) λh=>some (.go h)) d.vars.toNat 0 []) λi=>some i
theorem uO {e f} {h i} {d} (hN:HN B d) (C:Bo B d (qR 2 xC) h e) (E:Bo B d (qR 2 xJ) i f):∀ r,gA e f=some r->CG B d 166 #[h,i] (.v λt=>.st (t) λD=>rl 1 (zV 1 xF) 53 t r::D):=by
 refine vW func166 [(0,h),(1,i)] hN λr=>?_;obtain⟨F,rfl,G,P⟩:=xC.o C;refine jX e2 (λx=>?_);obtain⟨O,rfl,y,Q⟩:=xJ.o E;refine jX e2 λ_=>xK rfl (jR0 (zV 1 xF) λR=>xI rfl (oH e2 (jb 1 e3 (xA rfl (vA (λI=>.v λj=>.st [(5,j)] [rl 1 (zV 1 xF) 53 j I]) ?_ (λ_ j=>?_))))))
 ·
  refine zH (js [0,2] rfl ?_);refine jc (λz A=>.v λp=>.st [(9,xB (z:Int)),(2,oU x),(5,p),(8,xB f.vars)] [rl 1 (zV 1 xF) 53 p A,bx x [xB e.size,F] 34]) ⟨_,ls⟩ (λ_ A _ c p=>?_) (λ_ z _ c _=>?_)
  ·have K:=vJ c;refine xN (xR rfl (zX K (xP (js [0] rfl ?_))));exact jf ⟨_,ls⟩
  refine xN (xR rfl (kA (qW c) (oJ ?_)));have j2:=dL c y;refine yP (jo rfl (oH e2 (jb 1 e3 (jB λL M=>(jk (λH=>xCi aA xU G L M) λ_=>jh (λH=>H.os) (tD (λH=>El.sl) λ_=>jB λS N=>(js [1,0,2] rfl (jPL N λT=>zL 1 rfl (oE (vZ c y) (jo rfl ?_))))))))));refine aI ?_;exact jg ⟨_,ls⟩
 refine oQ (qZ 2 rfl ?_);exact j1 (rt rfl) ⟨_,lv⟩
def jV:Option Bool:= some false
theorem xQj {c} (hN:HN B c):∀ r,jV=some r->CG B c 168 #[] (sB r):=by
 refine jiN func168 [] hN λr=>?_;exact xN (xK rfl (xX rfl (qJ lv)))
def iE (c:Con) (d:List Int):Option Bool:= qD (σ:=Unit) (oM (λe (h:Int) s=>match s with | _=>qD (σ:=Unit) (qU (λf s=>match s with | _=>qD (σ:=Bool) (xH (ix c.scope (f:Int)) λi=>if (i==h) then xH (ix d (f:Int)) λj=>xH (ix d (e:Int)) λp=>some (.nx (j != p)) else some (.nx false)) λt=>if t then some (.ret (.ret false)) else some (.go ())) (e:Int).toNat 0 ()) λ_=>some (.go ())) c.scope 0 ()) λ_=>some true
theorem wE {c z} {t h} {j} (hN:HN B j) (E:Bo B j (qR 2 vH) t c) (A:Bo B j (Sl 1 xF) h z):∀ r,iE c z=some r->CG B j 270 #[t,h] (sB r):=by
 refine vW func270 [(0,t),(1,h)] hN λr=>?_;obtain⟨e,rfl,S,x⟩:=vH.o E;refine jX e2 λf=>xI rfl (oH e2 (jb 0 e3 (jL x λC=>xA rfl (vA (λ_=>.st [] []) ?_ (λ_=>?_)))))
 ·
  refine zH ?_;refine jl (λd _=>.st [(11,xB (d:Int)),(1,h),(2,oU f),(9,e),(10,xB (c.scope.length:Int))] [bx f [xB c.rel,e] 125]) ls (λ_ _ _ F=>?_) (λd D _ p G=>?_)
  ·have H:=oO F;exact xN (xR rfl (zX H (xP (js [] rfl (jf ls)))))
  refine xN (xR rfl (kA (xZ p) (oJ ?_)));have j1:=bV (Ae p) C;refine qH (jo rfl (jI x G λ_ I=>aJ I λ_=>kW 2 rfl (oD 2 rfl ?_)));refine vA (λ_=>.st [(1,h),(2,oU f),(9,e),(10,xB (c.scope.length:Int)),(11,xB (d:Int))] [bx f [xB c.rel,e] 125]) ?_ (λ_=>?_)
  ·
   refine zH ?_;refine jc (λy _=>.st [(17,xB (y:Int)),(1,h),(2,oU f),(5,xB (d:Int)),(6,xB D),(9,e),(10,xB (c.scope.length:Int)),(11,xB (d:Int)),(16,xB (d:Int))] [bx f [xB c.rel,e] 125]) ls (λ_ _ _ i=>?_) (λ_ y _ i=>?_)
   ·have K:=vJ i;exact xN (xR rfl (zX K (xP (jf ls))))
   refine xN (xR rfl (kA (qW i) (oJ ?_)));have j2:=dL i j1;refine qH (xFz 2 rfl ?_);refine vA (λL=>.st [(1,h),(2,oU f),(5,xB (d:Int)),(6,xB D),(9,e),(10,xB (c.scope.length:Int)),(11,xB (d:Int)),(16,xB (d:Int)),(17,xB (y:Int)),(37,.bool L)] [bx f [xB c.rel,e] 125]) ?_ (λ_=>?_)
   ·
    refine jQ (sQ e2 (jqb 0 e3 (vY 1 rfl (jB λT M=>(gU x M λ_ N=>kN N λ_=>vY 3 rfl (dZ 27 (λ_=>?_) (λ_=>?_)))))))
    ·exact vY 2 rfl (jB λU O=>(gU A O λ_ P=>kN P λ_=>vY 2 rfl (jB λW Q=>(gU A Q λ_ R=>kN R λ_=>vY 2 rfl (lE (dA (jf ls)))))))
    exact vY 10 rfl (lE (dA (jf ls)))
   refine dA (xW ?_ ?_)
   ·exact xN (qA 1 rfl (dB (zC (cV (xFw (dB (zC (cV (eT (qJ lv))))))))))
   exact qM (oE (vZ i j1) (xA rfl (jg ls)))
  exact aK (oE (qE p C) (xA rfl (jg ls)))
 exact oQ (xX rfl (qJ lv))
def iS (c:List Int) (e f:Int) (d:Con) (h:(List (List Int))):Option Bool:= qD (σ:=Bool) (xH (ix c e) λi=>if (i != f) then some (.nx true) else xH (iE d c) λj=>some (.nx (!j))) λp=>if p then some false else qD (σ:=Unit) (oM (λt (x:Int) s=>match s with | _=>xH (ix h x) λy=>xH (ix c (t:Int)) λz=>xH (zA y z) λA=>if (!A) then some (.ret false) else some (.go ())) d.scope 0 ()) λ_=>some true
theorem xCz {x y z i A} {d j p f e} {c} (hN:HN B c) (t:Bo B c (Sl 1 xF) d x) (F:Bo B c (Pt 1 xF) j y) (G:Bo B c (Pt 1 xF) p z) (A3:Bo B c (Pt 2 vH) f i) (I:Bo B c (Pt 1 (zV 1 (zV 1 xF))) e A):∀ r,iS x y z i A=some r->CG B c 269 #[d,j,p,f,e] (sB r):=by
 refine vW func269 [(0,d),(1,j),(2,p),(3,f),(4,e)] hN λr=>?_;refine jo rfl (gL (vA (λK=>.st [(0,d),(3,f),(4,e),(20,.bool K)] []) ?_ (λ_=>?_)))
 ·
  refine jQ (vY 1 rfl (kN F λ_=>jB λz1 L=>(gU t L λ_ M=>kN M λ_=>kN G λ_=>vY 2 rfl (dZ 15 (λ_=>?_) (λ_=>?_)))))
  ·exact vY 5 rfl (lE (dA (jf ls)))
  exact xBk A3 λ_ N=>vY 1 rfl (jB λO P=>(jqk (λH=>wE aA (H.a N) (H.a t) O P) (vY 2 rfl (lE (dA (jf ls))))))
 refine dA (xW ?_ ?_)
 ·exact xN (xT rfl (qJ lv))
 refine qY (kZ A3 vH.f1 λ_ Q=>aT Q λR C=>jL C λD=>xA rfl (vA (λ_=>.st [] []) ?_ (λ_=>?_)))
 ·
  refine zH (jl (λE _=>.st [(24,xB (E:Int)),(0,d),(4,e),(22,R),(23,xB (i.scope.length:Int))] []) ls (λ_ _ _ S=>?_) (λE _ _ h T=>?_))
  ·have U:=oO S;exact xN (xR rfl (zX U (xP (jf ls))))
  refine xN (xR rfl (kA (xZ h) (oJ ?_)));have j1:=bV (Ae h) D;refine qH (jo rfl (jI C T λ_ W=>aJ W λ_=>xFz 2 rfl (jQ (eN I λ_ X=>vY 1 rfl (jB λz3 Y=>(gU X Y λ_ Z=>eN Z λ_ h8=>vY 2 rfl (jB λz4 c4=>(gU t c4 (λ_ h9=>?_)))))))));refine kN h9 λi2=>jB λz5 c5=>(jqk (λH=>cB aA (H.a h8) i2 z5 c5) (vY 1 rfl (lE (dA (xW ?_ ?_)))))
  ·exact xN (qA 1 rfl (dB (zC (cV (eT (qJ lv))))))
  exact qM (oE (qE h D) (xA rfl (jg ls)))
 exact oQ (xX rfl (qJ lv))
def bF (c:List (List Int)) (d:(List Int)->Option Bool):Option Int:= qD (σ:=Unit) (oM (λe (f:(List Int)) s=>match s with | _=>xH (d f) λh=>if h then some (.ret ((e:Int))) else some (.go ())) c 0 ()) λ_=>some ((-1))
theorem lZ {i j} {f c e} {d} (hN:HN B d) (p:Bo B d (Sl 1 (zV 1 xF)) f i) (A:∀ args w,(callFunc c args).run prog w= .ok (.enter c args) w) (C:∀ (t:List Int) (r:Bool),j t=some r->∀ W,Below d.heap.size d W->∀ (x:Vl),Bo (All W) W (Sl 1 xF) x t->Calls prog c ([x]++e:List Vl).toArray W (Gt (All W) W [] (sB r))):∀ r,bF i j=some r->CG B d 237 #[f,.func (.func c) #[] e.toArray] (sI r):=by
 refine vW func237 [(0,f),(1,.func (.func c) #[] e.toArray)] hN λr=>?_;refine xI rfl (jo rfl (jL p λy=>xA rfl (vA (λ_=>.st [] []) ?_ (λ_=>?_))))
 ·
  refine zH (jl (λz _=>.st [(8,xB (z:Int)),(0,f),(1,.func (.func c) #[] e.toArray),(7,xB (i.length:Int))] []) ls (λ_ _ _ E=>?_) (λz _ _ h F=>?_))
  ·have G:=oO E;exact xN (xR rfl (zX G (xP (jf ls))))
  refine xN (xR rfl (kA (xZ h) (oJ (qH (kW 2 rfl (jA 3 rfl (jI p F λ_ D=>aT D λ_ I=>jB λK L=>?_)))))));refine jkV A e2 (λH=>C _ K L _ H.bl _ (H.a I)) (aI (xW ?_ ?_))
  ·refine xN (qA 2 rfl (dB (zC (cV (eT ?_)))));exact qJ ⟨(bV (Ae h) y),lv⟩
  exact qM (oE (qE h y) (xA rfl (jg ls)))
 refine oQ (xX rfl ?_);exact qJ ⟨kV,lv⟩
def oY (c:List (List Int)) (d:(List Int)->Option Bool):Option Bool:= xH (bF c d) λe=>some ((decide (0<=e)))
theorem zY {j p} {i c f} {d} (hN:HN B d) (z:Bo B d (Sl 1 (zV 1 xF)) i j) (x:∀ args w,(callFunc c args).run prog w= .ok (.enter c args) w) (y:∀ (e:List Int) (r:Bool),p e=some r->∀ W,Below d.heap.size d W->∀ (t:Vl),Bo (All W) W (Sl 1 xF) t e->Calls prog c ([t]++f:List Vl).toArray W (Gt (All W) W [] (sB r))):∀ r,oY j p=some r->CG B d 169 #[i,.func (.func c) #[] f.toArray] (sB r):=by
 refine jiN func169 [(0,i),(1,.func (.func c) #[] f.toArray)] hN λr=>?_;exact xN (xK rfl (jA 2 rfl (jB λA C=>(jk (λH=>lZ aA (H.a z) x (λe r h W D=>y e r h W (H.bl.trans (D.mono H.fr.size))) A C) λE=>qZ 2 rfl (qJ lv)))))
def dD (d:A6) (c:Con) (e:List (List Int)) (f h:Int):Option Bool:= xH (ix d.rels c.rel) λi=>xH (oY i.tuples (λj=>iS j f h (Con.mk c.rel c.scope) e)) λp=>some p
theorem xGm {t x y d e} {i j p} {c} (hN:HN B c) (D:Bo B c (qR 2 xC) i t) (E:Bo B c (qR 2 vH) j x) (z:Bo B c (Sl 1 (zV 1 xF)) p y) (A:xM d) (C:xM e):∀ r,dD t x y d e=some r->CG B c 235 #[i,j,p,xB d,xB e] (sB r):=by
 refine vW func235 [(0,i),(1,j),(2,p),(3,xB d),(4,xB e)] hN λr=>?_;obtain⟨R,rfl,S,F⟩:=xC.o D;refine jX e2 (λ_=>?_);obtain⟨Q,rfl,G,I⟩:=vH.o E;refine jX e2 λ_=>jX1 rfl (λH=>(H.a z).one) λ_=>jX e2 λ_=>jX e2 λ_=>xK rfl (oH e2 (jb 4 e3 (oH e2 (jb 3 e3 (jB λT K=>(jI F K λ_ L=>kZ L oR.f1 λ_ M=>aT M λ_ N=>cU e2 ?_))))));exact jB λO P=>(jk (λH=>zY aA (H.a N) call269 (λU r h W f X f0=>xCz aA f0 ((c1I (H.g 1 rfl).bk A).w f) ((c1I (H.g 0 rfl).bk C).w f) ((vH.b (H.g 3 rfl).bk G (H.a I)).w f) ((c1S (H.g 2 rfl).bk (H.a z)).w f) r h) O P) (xX rfl (qJ lv)))
def uF (c d:Int):Option Bool:= some ((c==d))
theorem xHo {c f} {d} {e} (hN:HN B e) (i:xM c) (h:Bo B e (Pt 1 xF) d f):∀ r,uF c f=some r->CG B e 272 #[xB c,d] (sB r):=by
 refine jiN func272 [(0,xB c),(1,d)] hN λr=>?_;exact xN (xK rfl (jo rfl (aJ h λ_=>qZ 2 rfl (qJ lv))))
def kK (N:Nat) (i:List Int) (p:Int->Option Bool):Option (List Int):= xH (qK i p) λj=>if (j==(-1)) then some i else xH (ck (j+1)) λy=>qD (σ:=Int×Int×(List Int)) (lF (λs=>match s with | (d,e,c)=>if (decide (e<(c.length:Int))) then xH (ix c e) λt=>xH (p t) λz=>if (!z) then xH (ix c d) λD=>xH (ck (d+1)) λA=>xH (ck (e+1)) λB=>some (.go (A,B,(c.set (d).toNat t))) else xH (ck (e+1)) λC=>some (.go (d,C,c)) else some (.brk (d,e,c))) N (j,y,i)) λ(f,E,h)=>xH (sl h f (h.length:Int)) λF=>xH (sl (h.take (f).toNat++List.replicate (h.length - (f).toNat) 0) 0 f) λx=>some x
theorem nL {E:List Int} {F:Int->Option Bool} (r:(List Int)) (hR:kK N E F=some r) {j:Vl} {c:FuncId} {f:List Vl} {G:List Nat} (d:Wd) (hN:HN B d) (S0:Sep G B d d [rl 1 xF 2 j E]) (z:∀ args w,(callFunc c args).run prog w= .ok (.enter c args) w) (A:∀ (e:Int) (r:Bool),F e=some r->∀ W,Sm B d W->xM e->Calls prog c ([xB e]++f:List Vl).toArray W (Gt (All W) W [] (sB r))):Calls prog 271 #[j,.func (.func c) #[] f.toArray] d (Gt B d G (.v λC=>.st (C) λD=>rl 1 xF 2 C r::D)):=by
 unfold kK at hR
 revert r
 refine jin func271 [(0,j),(1,.func (.func c) #[] f.toArray)] S0 λr=>?_;refine xN (xK rfl (jA 2 rfl (jB λz1 c1=>(jk (λH=>bT aA (H.l 0 rfl) z (λe r h W l1=>A e r h W (H.go l1).sm) z1 c1) λY=>xI rfl (oD 2 rfl (xW ?_ ?_))))))
 ·refine xN (pC 2 rfl ?_);exact j1 (rt rfl) ⟨_,lv⟩
 refine qY (jo rfl (jB λz2 I=>(kE I (xA rfl (vA (λ(p,K,L)=>.v λM=>.fa (xM p) <| .fa (xM K) <| .st [(0,M),(5,xB p)] [rl 1 xF 2 M L]) ?_ (λ(p,K,L) _ _ _=>?_))))))
 ·
  refine zH ?_;refine jw (λ(t,x,O)=>.v λy=>.fa (xM t) <| .fa (xM x) <| .st [(0,y),(1,.func (.func c) #[] f.toArray),(5,xB t),(6,xB x)] [rl 1 xF 2 y O]) ⟨_,Y,(zI I),ls⟩ (λ_ (t,x,O) y P i2=>?_);refine xV (jA 2 rfl (nO (λH=>H.l 0 rfl) λ_=>xA rfl (xW ?_ ?_)))
  ·
   refine mB (jA 2 rfl (jB λz3 c3=>(cM λ_ _ _ Z g2 _ i _=>(jI g2.ld c3 λ_ h1=>aJ h1 λQ=>xK rfl (jA 2 rfl (jB λz4 c4=>?_))))));refine jkV z e2 (λH=>A _ z4 c4 _ (Z.trans (Sm.mono H.sm i.2.2)) Q) (xA rfl (xW ?_ ?_))
   ·refine xN (jA 3 rfl (jB λz5 R=>(kY i (jRl 0 R λ_ a0=>jh (λH=>H.lw) (jS a0 (cI R) (λH=>Eo.int Q) rfl (jh (λH=>H.tl) (eR (jo rfl (jB λz6 S=>(kE S (zL 1 rfl (jo rfl ?_))))))))))));refine jB λz7 T=>(kE T (xA rfl ?_));exact jg ⟨_,(zI S),(zI T),ls⟩
   refine qM (jo rfl (jB λz8 U=>(kE U (xA rfl (kY i ?_)))));exact jg ⟨_,P,(zI U),ls⟩
  refine mK (jbk (wI ?_));exact jf ⟨_,P,i2,ls⟩
 refine oQ (jA 2 rfl (jB λz9 c9=>(jRtl 0 c9 λ_ X=>jRcl (zeroValue2) X (qS (jA 2 rfl (jB λae a1=>(jh (λH=>H.lw) (jT a1 λv3=>jh (λH=>H.tl) (xX rfl ?_)))))))));exact j1 (rt rfl) ⟨_,lv⟩
def gP (N:Nat) (c:List Int) (d:Int):Option (List Int):= xH (oV c) λe=>xH (kK N e (λf=>uF f d)) λh=>some h
theorem xKa {i c} {d} {e} (hN:HN B e) (t:Bo B e (Sl 1 xF) d i) (j:xM c):∀ r,gP N i c=some r->CG B e 236 #[d,xB c] (.v λf=>.st (f) λD=>rl 1 xF 2 f r::D):=by
 refine vW func236 [(0,d),(1,xB c)] hN λr=>?_;refine jX e2 λ_=>xK rfl (jo rfl (jB λx y=>(jk (λH=>qV aA (H.a t) x y) λI=>cU e2 (js [1,0] rfl (cM λK L M _ z _ p _=>?_)))));have A:=z.bk;refine jB λC E=>(jko 1 (λF H=>nL C E _ H.hN F call272 (λO r h W G f0=>xHo aA f0 (Bo.all (Bo.to (c1I (A.to H.sm) j) G)) r h)) λP=>xX rfl (kY p (js [1] rfl ?_)));exact j1 (rt rfl) ⟨_,lv⟩
def fN (N:Nat) (j:A6) (O:A7) (P:List (List Int)) (Q:List (List Int)->Option Bool):Option ((List B1)×(List (List Int))):= qD (σ:=(List B1)×Bool×(List (List Int))) (lF (λs=>match s with | (p,t,x)=>if t then qD (σ:=(List B1)×Bool×(List (List Int))) (oM (λR (e:Con) s=>match s with | (S,T,U)=>qD (σ:=(List B1)×Bool×(List (List Int))) (oM (λW (d:Int) s=>match s with | (X,Y,y)=>xH (ix y d) λZ=>xH (oV Z) λz2=>qD (σ:=(List B1)×Bool×(List (List Int))) (oM (λk3 (f:Int) s=>match s with | (i,A,c)=>xH (dD (A6.mk j.size j.rels) (Con.mk e.rel e.scope) c (W:Int) f) λz3=>if z3 then some (.go (i,A,c)) else xH (ix c d) λz4=>xH (gP N z4 f) λh=>xH (ap i ([(B1.mk d f (R:Int))])) λz=>xH (Q (c.set (d).toNat h)) λz7=>if z7 then some (.ret (.ret (.ret (.ret (z,(c.set (d).toNat h)))))) else some (.go (z,true,(c.set (d).toNat h)))) z2 0 (X,Y,y)) λ(B,C,D)=>some (.go (B,C,D))) e.scope 0 (S,T,U)) λ(E,F,G)=>some (.go (E,F,G))) O.cons 0 (p,false,x)) λ(H,I,K)=>some (.go (H,I,K)) else some (.brk (p,t,x))) N ([],true,P)) λ(L,a4,M)=>some (L,M)
theorem uU {i:A6} {d:A7} {x2:List (List Int)} (r:(List B1)×(List (List Int))) (hR:fN N i d x2 (λ_=>jV)=some r) {v0:Vl} {v1:Vl} {c:Vl} {X0:List Nat} (p:Wd) (hN:HN B p) (S0:Sep X0 B p p [rl 1 (zV 1 xF) 53 c x2]) (A0:Bo B p (qR 2 xC) v0 i) (A1:Bo B p (qR 2 xJ) v1 d):Calls prog 167 #[v0,v1,c,.func (.func 168) #[] #[]] p (Gt B p X0 (.v λa8=>.st (a8) λD=>rl 3 xS 89 a8 r.1::rl 1 (zV 1 xF) 53 c r.2::D)):=by
 unfold fN at hR
 revert r
 refine jin func167 [(0,v0),(1,v1),(2,c),(3,.func (.func 168) #[] #[])] S0 λr=>?_;refine xN ?_;obtain⟨t,rfl,i1,h1⟩:=xC.o A0;refine jX e2 (λe=>?_);obtain⟨h,rfl,i2,h2⟩:=xJ.o A1;refine jX e2 λf=>xK rfl (jR0 xS λv4=>xI rfl (xA rfl (vA (λ(s1,s2,s3)=>.v λv5=>.st [(2,c),(9,v5)] [rl 3 xS 89 v5 s1,rl 1 (zV 1 xF) 53 c s3]) ?_ (λ(s1,s2,s3) v5=>?_))))
 ·
  refine zH ?_;refine jw (λ(s4,s5,s6)=>.v λv6=>.st [(2,c),(3,.func (.func 168) #[] #[]),(4,oU e),(5,oU f),(9,v6),(10,.bool s5)] [rl 3 xS 89 v6 s4,bx f [xB d.vars,h] 77,bx e [xB i.size,t] 34,rl 1 (zV 1 xF) 53 c s6]) ⟨_,ls⟩ (λ_ (s4,s5,s6) v6=>?_);refine xV (xA rfl (xW ?_ ?_))
  ·
   refine xCs (xK rfl (oH e2 (jb 1 e3 (jL h2 λi3=>xA rfl ?_))));refine vA (λ(s7,s8,s9)=>.v λv7=>.st [(2,c),(3,.func (.func 168) #[] #[]),(4,oU e),(5,oU f),(9,v7),(10,.bool s8)] [rl 3 xS 89 v7 s7,bx f [xB d.vars,h] 77,bx e [xB i.size,t] 34,rl 1 (zV 1 xF) 53 c s9]) ?_ (λ(s7,s8,s9) v7=>?_)
   ·
    refine zH ?_;refine jl (λj (I,K,L)=>.v λF=>.st [(22,xB (j:Int)),(2,c),(3,.func (.func 168) #[] #[]),(4,oU e),(5,oU f),(9,F),(10,.bool K),(20,h),(21,xB (d.cons.length:Int))] [rl 3 xS 89 F I,bx f [xB d.vars,h] 77,bx e [xB i.size,t] 34,rl 1 (zV 1 xF) 53 c L]) ⟨_,ls⟩ (λ_ (I,K,L) _ q1 F=>?_) (λj x (I,K,L) M y1 F=>?_)
    ·have l1:=oO q1;refine xN (xR rfl (zX l1 (xP ?_)));exact jf ⟨_,ls⟩
    refine xN (xR rfl (kA (xZ M) (oJ (qH (jo rfl (jI h2 y1 λ_ h3=>jlA h3 λ_ h4=>aM rfl λy=>jo rfl ?_))))));obtain⟨z,rfl,i4,G⟩:=vH.o h4;refine kG (hv:=(λH=>oc rfl (oc (H.a G).one on))) e3 (qS (oH e2 (jb 0 e3 (jL G λi5=>xA rfl ?_))));refine vA (λ(a9,aa,ab)=>.v λO=>.st [(2,c),(3,.func (.func 168) #[] #[]),(4,oU e),(5,oU f),(9,O),(10,.bool aa),(20,h),(21,xB (d.cons.length:Int)),(22,xB (j:Int))] [rl 3 xS 89 O a9,bx f [xB d.vars,h] 77,bx e [xB i.size,t] 34,rl 1 (zV 1 xF) 53 c ab]) ?_ (λ(a9,aa,ab) O=>?_)
    ·
     refine zH ?_;refine jl (λA (P,Q,R)=>.v λC=>.st [(30,xB (A:Int)),(2,c),(3,.func (.func 168) #[] #[]),(4,oU e),(5,oU f),(9,C),(10,.bool Q),(11,xB (j:Int)),(12,oU y),(20,h),(21,xB (d.cons.length:Int)),(22,xB (j:Int)),(28,z),(29,xB (x.scope.length:Int))] [bx y [xB x.rel,z] 125,rl 3 xS 89 C P,bx f [xB d.vars,h] 77,bx e [xB i.size,t] 34,rl 1 (zV 1 xF) 53 c R]) ⟨_,ls⟩ (λ_ (P,Q,R) _ q2 C=>?_) (λA x4 (P,Q,R) S y2 C=>?_)
     ·have l2:=oO q2;refine xN (xR rfl (zX l2 (xP (js [1,2,3,4] rfl ?_))));exact jf ⟨_,ls⟩
     refine xN (xR rfl (kA (xZ S) (oJ (qH (jo rfl (jI G y2 λ_ h6=>aJ h6 λi6=>kW 2 rfl (jA 2 rfl (jB λz1 c1=>(js [4,0,1,2,3] rfl (cM λ_ _ _ _ g1 _ b0 _=>?_))))))))));refine jI g1.ld c1 λ_ h7=>aT h7 λ_ h8=>jB λz2 c2=>(jk (λH=>qV aA (H.a h8) z2 c2) λac=>nO (λH=>H.l 0 rfl) λi7=>xA rfl (kY b0 ?_));refine vA (λ(ad,ae,af)=>.v λT=>.st [(2,c),(3,.func (.func 168) #[] #[]),(4,oU e),(5,oU f),(9,T),(10,.bool ae),(11,xB (j:Int)),(12,oU y),(20,h),(21,xB (d.cons.length:Int)),(22,xB (j:Int)),(28,z),(29,xB (x.scope.length:Int)),(30,xB (A:Int))] [rl 1 (zV 1 xF) 53 c af,bx y [xB x.rel,z] 125,rl 3 xS 89 T ad,bx f [xB d.vars,h] 77,bx e [xB i.size,t] 34]) ?_ (λ(ad,ae,af) T=>?_)
     ·
      refine zH ?_;refine jl (λk3 (U,W,X)=>.v λE=>.st [(41,xB (k3:Int)),(2,c),(3,.func (.func 168) #[] #[]),(4,oU e),(5,oU f),(9,E),(10,.bool W),(11,xB (j:Int)),(12,oU y),(13,xB (A:Int)),(14,xB x4),(20,h),(21,xB (d.cons.length:Int)),(22,xB (j:Int)),(28,z),(29,xB (x.scope.length:Int)),(30,xB (A:Int)),(39,ac),(40,xB (z2.length:Int))] [rl 1 (zV 1 xF) 53 c X,rl 1 xF 2 ac z2,bx y [xB x.rel,z] 125,rl 3 xS 89 E U,bx f [xB d.vars,h] 77,bx e [xB i.size,t] 34]) ⟨_,ls⟩ (λ_ (U,W,X) _ q3 E=>?_) (λk3 x5 (U,W,X) Y y3 E=>?_)
      ·have l3:=oO q3;refine xN (xR rfl (zX l3 (xP (js [0,2,3,4,5] rfl ?_))));exact jf ⟨_,ls⟩
      refine xN (xR rfl (kA (xZ Y) (oJ ?_)));have j2:=bV (Ae Y) i7;have m1:=qE Y i7;refine qH (js [1,0,2,3,4,5] rfl (cM λ_ _ _ _ g2 e1 Z _=>(jI g2.ld y3 λ_ h9=>aJ h9 λi8=>xI rfl (aH 4 e3 (aH 1 e3 (jA 3 rfl (jB λz3 c3=>?_)))))));refine jk (λH=>xGm aA (xC.m i1 (H.a (e1 h1))) (vH.m i4 (H.a (e1 G))) (H.l 0 rfl) (bV (Ae S) i5) i8 z3 c3) (aI (xW ?_ ?_))
      ·refine xQk (oE m1 (xA rfl (kY Z (js [1,0,2,3,4,5] rfl ?_))));exact jg ⟨_,ls⟩
      refine qG (jA 4 rfl (jB λz4 c4=>(cM λ_ _ _ _ g3 _ b1 _=>(jI g3.ld c4 λ_ b2=>aT b2 λ_ b3=>jo rfl (jB λz5 c5=>(jk (λH=>xKa aA (H.a b3) i8 z5 c5) λ_=>kY b1 (jRl 0 c4 λ_ b4=>jSl b4 (cI c4) rfl (qS (jA 4 rfl (qC e5 ?_))))))))));refine iX (λH=>Eo.agg (xS.m i6 i8 (bV (Ae M) i3))) λ_=>jB λz6 c6=>(js [3,0,1,2,4,5] rfl (jPL c6 λce=>xK rfl (xK rfl (jo rfl (jB λz7 c7=>?_)))));refine jkV (lb:=[]) call168 e2 (λH=>xQj aA z7 c7) (aI (xW ?_ ?_))
      ·refine xN (qA 2 rfl (dB (zC (cV (xFw (dB (zC (cV (xFw (dB (zC (cV (zC ?_)))))))))))));refine dB (zC (cV (eT (kY Z (js [1,2] rfl ?_)))));exact j1 (rt rfl) ⟨_,lv⟩
      refine qM (oE m1 (xA rfl (kY Z (js [2,0,3,1,4,5] rfl ?_))));exact jg ⟨_,ls⟩
     refine aK (oE (qE S i5) (xA rfl (js [1,2,3,4,0] rfl ?_)));exact jg ⟨_,ls⟩
    refine aK (oE (qE M i3) (xA rfl ?_));exact jg ⟨_,ls⟩
   refine oBg ?_;exact jg ⟨_,ls⟩
  refine mK (jbk (wI (js [0,3] rfl ?_)));exact jf ⟨_,ls⟩
 refine oQ (qZ 2 rfl ?_);exact j1 (rt rfl) ⟨_,lv⟩
def yY (c:List Int):Option Bool:= some (((c.length:Int)==0))
theorem xLo {e} {c} {d} (hN:HN B d) (f:Bo B d (Sl 1 xF) c e):∀ r,yY e=some r->CG B d 170 #[c] (sB r):=by
 refine jiN func170 [(0,c)] hN λr=>?_;exact xN (xK rfl (jo rfl (jL f λ_=>qZ 2 rfl (qJ lv))))
def fA (e:Int) (d:Op) (c:List Int):Option Int:= xH (ix c 0) λf=>xH (sl c 1 (c.length:Int)) λh=>qD (σ:=Int) (oM (λx i j=>xH (aW (Op.mk d.arity d.table) e ([j,i])) λp=>some (.go p)) h 0 f) λt=>some t
theorem xNf {c h t} {i j} {e} (hN:HN B e) (E:xM c) (I:Bo B e (qR 2 vX) i h) (x:Bo B e (Sl 1 xF) j t):∀ r,fA c h t=some r->CG B e 171 #[xB c,i,j] (sI r):=by
 refine vW func171 [(0,xB c),(1,i),(2,j)] hN λr=>?_;obtain⟨K,rfl,L,M⟩:=vX.o I;refine jX e2 λy=>xK rfl (jo rfl (jB λz1 F=>(jI x F λ_ N=>aJ N λO=>xI rfl (jo rfl (jB λP Q=>(jC rfl rfl x Q λR z=>jL z λA=>xA rfl ?_))))));refine vA (λC=>.fa (xM C) <| .st [(7,xB C)] []) ?_ (λ_ S=>?_)
 ·
  refine zH ?_;refine jl (λD d=>.fa (xM d) <| .st [(16,xB (D:Int)),(0,xB c),(4,oU y),(7,xB d),(14,R),(15,xB (P.length:Int))] [bx y [xB h.arity,K] 104]) ⟨O,ls⟩ (λ_ d _ T p=>?_) (λD U d f W p=>?_)
  ·have X:=oO T;refine xN (xR rfl (zX X (xP (js [] rfl ?_))));exact jf ⟨p,ls⟩
  refine xN (xR rfl (kA (xZ f) (oJ ?_)));have j1:=bV (Ae f) A;refine qH (jI z W λ_ Y=>aJ Y λZ=>jo rfl (eR (aH 0 e3 (jA 3 rfl ?_))));refine jRI [d,U] (by simp only[Al,Aq,Aw,implies_true,and_true];exact⟨p,Z⟩) λ_=>jB λz3 c2=>?_;refine jk (λH=>vM aA (vX.m L (H.a M)) E (H.l 0 rfl) z3 c2) λG=>zL 1 rfl (oE (qE f A) (xA rfl (js [1] rfl ?_)));exact jg ⟨G,ls⟩
 refine oQ (qZ 2 rfl ?_);exact qJ ⟨S,lv⟩
end
section
open Go.Proofs.Tryz
set_option maxHeartbeats 1000000
set_option maxRecDepth 100000
open Go.RowKit
variable {B:Nat->Prop} {N:Nat}
def dC (N:Nat) (c:A6) (d:A7) (e:Op):Option (A9×Int):= xH (fZ N (A6.mk c.size c.rels) (A7.mk d.vars d.cons) (Op.mk e.arity e.table) 6) λh=>if (h != 0) then some ((A9.mk 0 ([]) ([]) ([]) ([])),h) else xH (gA (A6.mk c.size c.rels) (A7.mk d.vars d.cons)) λi=>xH (fN N (A6.mk c.size c.rels) (A7.mk d.vars d.cons) i (λ_=>jV)) λf=>xH (oY f.2 (λj=>yY j)) λp=>if p then some ((A9.mk 1 ([]) f.1 ([]) ([])),0) else qD (σ:=List Int) (oM (λB t x=>xH (fA c.size (Op.mk e.arity e.table) t) λy=>xH (ap x ([y])) λz=>some (.go z)) f.2 0 []) λA=>some ((A9.mk 0 A ([]) ([]) ([])),0)
theorem uS {i K j} {p t x} {c} (hN:HN B c) (Z:Bo B c (qR 2 xC) p i) (A1:Bo B c (qR 2 xJ) t K) (A2:Bo B c (qR 2 vX) x j):∀ r,dC N i K j=some r->CG B c 114 #[p,t,x] (.v λG=>.v λI=>.fa (xM r.1.kind) <| .fa (xM r.2) <| .st (.tuple #[.agg #[xB r.1.kind,G,I,aB,aB],xB r.2]) λD=>rl 1 xF 2 G r.1.values::rl 3 xS 89 I r.1.arcs::D):=by
 refine vW func114 [(0,p),(1,t),(2,x)] hN λr=>?_;obtain⟨v3,rfl,d,y⟩:=xC.o Z;refine jX e2 (λL=>?_);obtain⟨an,rfl,z,A⟩:=xJ.o A1;refine jX e2 (λb2=>?_);obtain⟨v4,rfl,M,O⟩:=vX.o A2;refine jX e2 λP=>aM rfl λe=>xI rfl (aH 3 e3 (aH 2 e3 (aH 1 e3 (jB λz1 c1=>?_))));refine jk (λH=>tU aA (xC.m d (H.a y)) (xJ.m z (H.a A)) (vX.m M (H.a O)) sM z1 c1) λU=>xK rfl (oD 2 rfl (xW ?_ ?_))
 ·refine xN (qC e5 (jo rfl (kG e3 (xT rfl ?_))));exact mA (λH=>((H.nl 1 xF 2).nl 3 xS 89).s [1,0] rfl rfl) (cN 0 e2) (rt rfl) ⟨_,_,xU,U,lv⟩
 refine qG (aH 3 e3 (aH 2 e3 (jB λz2 c2=>?_)));refine jk (λH=>uO aA (xC.m d (H.a y)) (xJ.m z (H.a A)) z2 c2) λQ=>xK rfl (aH 4 e3 (aH 3 e3 (jo rfl (jB λC c3=>?_))));refine jko 1 (λK1 H=>uU C c3 _ H.hN K1 (xC.m d (H.u y)) (xJ.m z (H.u A))) λv6=>xI rfl (jo rfl (jB λz4 c4=>(jk (λH=>zY aA (H.l 1 rfl) call170 (λa0 r h W l1 u0 f0=>xLo aA f0 r h) z4 c4) (aI (xW ?_ ?_)))))
 ·refine xN (jo rfl ?_);refine qC (hone:=(λH=>oc rfl (oc (H.l 0 rfl).one on))) e5 (js [2,0,1,3,4,5] rfl ?_);refine kG (hv:=(λH=>oc rfl (oc rfl (oc (H.l 1 rfl).one (oc rfl (oc rfl on)))))) e3 (xT rfl ?_);exact mA (λH=>(H.nl 1 xF 2).s [0,2] rfl rfl) (cN 0 e2) (rt rfl) ⟨_,_,zD,xU,lv⟩
 refine qG (jR0 xF λv7=>xI rfl (jo rfl (nO (λH=>H.l 2 rfl) λR=>xA rfl ?_)));refine vA (λs1=>.v λE=>.st [(6,oU e),(11,E)] [rl 1 xF 2 E s1,bx e [xB 0,aB,aB,aB,aB] 57]) ?_ (λ_ E=>?_)
 ·
  refine zH (js [0,2,3,4,6] rfl ?_);refine jl (λS T=>.v λF=>.st [(36,xB (S:Int)),(3,oU L),(5,oU P),(6,oU e),(11,F),(34,Q),(35,xB (C.2.length:Int))] [rl 1 xF 2 F T,rl 1 (zV 1 xF) 53 Q C.2,bx e [xB 0,aB,aB,aB,aB] 57,bx P [xB j.arity,v4] 104,bx L [xB i.size,v3] 34]) ⟨_,ls⟩ (λ_ T _ q1 F=>?_) (λS _ _ f y1 _=>?_)
  ·have l2:=oO q1;refine xN (xR rfl (zX l2 (xP (js [0,2] rfl ?_))));exact jf ⟨_,ls⟩
  refine xN (xR rfl (kA (xZ f) (oJ ?_)));have j1:=bV (Ae f) R;refine qH (js [1,0,2,3,4] rfl (cM λ_ _ _ _ g1 e1 X _=>(jI g1.ld y1 λ_ h4=>aT h4 λ_ h5=>jo rfl (eR (jo rfl (oH e2 (jb 3 e3 (aH 2 e3 (jo rfl (jB λz5 c5=>?_))))))))));refine jk (λH=>xNf aA d (vX.m M (H.a (e1 O))) (H.a h5) z5 c5) λY=>iX (λH=>Eo.int Y) λ_=>jB λz6 c6=>(js [1,0,2,3,4] rfl (jPL c6 λao=>zL 1 rfl (oE (qE f R) (xA rfl (kY X (js [1,0,2,3,4] rfl ?_))))));exact jg ⟨_,ls⟩
 refine oQ (jo rfl (jk (λH=>gX (H.l 0 rfl).one _ H.hN) (js [1,0] rfl ?_)));refine kG (hv:=(λH=>oc rfl (oc (H.l 1 rfl).one (oc rfl (oc rfl (oc rfl on)))))) e3 (xX rfl ?_);exact mA (λH=>(H.nl 3 xS 89).s [2,0] rfl rfl) (cN 0 e2) (rt rfl) ⟨_,_,xU,xU,lv⟩
def iT (c:List Int) (e:Con) (p t f h:Int):Option Bool:= qD (σ:=Unit) (oM (λi (d:Int) s=>match s with | _=>qD (σ:=Bool) (if (d==p) then xH (ix c (i:Int)) λj=>if (j != t) then some (.nx true) else if (d==f) then some (.nx (j != h)) else some (.nx false) else if (d==f) then xH (ix c (i:Int)) λx=>some (.nx (x != h)) else some (.nx false)) λy=>if y then some (.ret false) else some (.go ())) e.scope 0 ()) λ_=>xH (iE e c) λz=>some z
theorem xDe {z p A C D E} {d e f h i j} {c} (hN:HN B c) (t:Bo B c (Sl 1 xF) d z) (F:Bo B c (Pt 2 vH) e p) (O:Bo B c (Pt 1 xF) f A) (A3:Bo B c (Pt 1 xF) h C) (G:Bo B c (Pt 1 xF) i D) (I:Bo B c (Pt 1 xF) j E):∀ r,iT z p A C D E=some r->CG B c 292 #[d,e,f,h,i,j] (sB r):=by
 refine vW func292 [(0,d),(1,e),(2,f),(3,h),(4,i),(5,j)] hN λr=>?_;refine xI rfl (kZ F vH.f1 λ_ P=>aT P λK L=>jL L λM=>xA rfl (vA (λ_=>.st [(0,d),(1,e)] []) ?_ (λ_=>?_)))
 ·
  refine zH (jl (λy _=>.st [(13,xB (y:Int)),(0,d),(1,e),(2,f),(3,h),(4,i),(5,j),(11,K),(12,xB (p.scope.length:Int))] []) ls (λ_ _ _ Q=>?_) (λy x1 _ x R=>?_))
  ·have S:=oO Q;exact xN (xR rfl (zX S (xP (jf ls))))
  refine xN (xR rfl (kA (xZ x) (oJ ?_)));have j1:=bV (Ae x) M;refine qH (jo rfl (jI L R λ_ T=>aJ T λ_=>xFz 2 rfl (vA (λU=>.st [(0,d),(1,e),(2,f),(3,h),(4,i),(5,j),(11,K),(12,xB (p.scope.length:Int)),(13,xB (y:Int)),(41,.bool U)] []) ?_ (λ_=>?_))))
  ·
   refine jQ (vY 1 rfl (kN O λ_=>vY 2 rfl (dZ 21 (λ_=>?_) (λ_=>?_))))
   ·
    refine vY 2 rfl (jB λz1 N=>(gU t N λ_ W=>kN W λ_=>kN A3 λ_=>vY 3 rfl (dZ 29 (λ_=>?_) (λ_=>?_))))
    ·exact vY 12 rfl (lE (dA (jf ls)))
    refine vY 1 rfl (kN G λ_=>vY 2 rfl (dZ 33 (λ_=>?_) (λ_=>?_)))
    ·exact vY 2 rfl (gU t N λ_ X=>kN X λ_=>kN I λ_=>vY 3 rfl (lE (dA (jf ls))))
    exact vY 8 rfl (lE (dA (jf ls)))
   refine vY 9 rfl (kN G λ_=>vY 2 rfl (dZ 33 (λ_=>?_) (λ_=>?_)))
   ·exact vY 2 rfl (jB λz2 Y=>(gU t Y λ_ Z=>kN Z λ_=>kN I λ_=>vY 3 rfl (lE (dA (jf ls)))))
   exact vY 8 rfl (lE (dA (jf ls)))
  refine dA (xW ?_ ?_)
  ·exact xN (qA 1 rfl (dB (zC (cV (eT (qJ lv))))))
  exact qM (oE (qE x M) (xA rfl (jg ls)))
 exact oQ (jlA F λ_ h7=>jo rfl (jB λz3 c3=>(jk (λH=>wE aA (H.a h7) (H.a t) z3 c3) (xX rfl (qJ lv)))))
def iF (c:Con) (h:A6) (d e i j:Int):Option Bool:= qD (σ:=Bool) (xH (zA c.scope d) λf=>if (!f) then xH (zA c.scope e) λp=>some (.nx (!p)) else some (.nx false)) λt=>if t then some true else xH (ix h.rels c.rel) λx=>xH (oY x.tuples (λy=>iT y (Con.mk c.rel c.scope) d i e j)) λz=>some z
theorem xFx {p t c d e f} {x y} {j} (hN:HN B j) (P:Bo B j (qR 2 vH) x p) (Q:Bo B j (qR 2 xC) y t) (A:xM c) (C:xM d) (L:xM e) (M:xM f):∀ r,iF p t c d e f=some r->CG B j 276 #[x,y,xB c,xB d,xB e,xB f] (sB r):=by
 refine vW func276 [(0,x),(1,y),(2,xB c),(3,xB d),(4,xB e),(5,xB f)] hN λr=>?_;obtain⟨R,rfl,S,z⟩:=vH.o P;refine jX e2 (λD=>?_);obtain⟨N,rfl,i2,T⟩:=xC.o Q;refine jX e2 λE=>jX e2 λF=>jX e2 λG=>jX e2 λI=>jX e2 λK=>jo rfl (gL ?_);refine vA (λU=>.st [(6,oU D),(7,oU E),(8,oU F),(9,oU G),(10,oU I),(11,oU K),(24,.bool U)] [bx K [xB f] 2,bx I [xB e] 2,bx G [xB d] 2,bx F [xB c] 2,bx E [xB t.size,N] 34,bx D [xB p.rel,R] 125]) ?_ (λ_=>?_)
 ·
  refine iQ (oH e2 (jb 5 e3 (jb 3 e3 (jB λO X=>(jk (λH=>cB aA (H.a z) A O X) (jA 2 rfl (dZ 18 (λ_=>?_) (λ_=>?_))))))))
  ·exact oH e2 (jb 5 e3 (jb 2 e3 (jB λY Z=>(jk (λH=>cB aA (H.a z) C Y Z) (oD 2 rfl (jf ls))))))
  exact oD 6 rfl (jf ls)
 refine dA (xW ?_ ?_)
 ·exact xN (xT rfl (qJ lv))
 exact qG (oH e2 (jb 4 e3 (oH e2 (jb 5 e3 (jB λz2 c3=>(jI T c3 λ_ h3=>kZ h3 oR.f1 λ_ h4=>aT h4 λ_ h5=>cU e2 (jB λz3 c4=>(jk (λH=>zY aA (H.a h5) call292 (λa0 r h W i u0 f0=>xDe aA f0 ((vH.b (H.g 5 rfl).bk S (H.a z)).w i) ((c1I (H.g 3 rfl).bk A).w i) ((c1I (H.g 1 rfl).bk L).w i) ((c1I (H.g 2 rfl).bk C).w i) ((c1I (H.g 0 rfl).bk M).w i) r h) z3 c4) (xX rfl (qJ lv))))))))))
def lX (c:Con) (e:A6) (f h:Int) (d:(List Int)):Option Bool:= xH (ix d 0) λi=>xH (ix d 1) λj=>xH (iF (Con.mk c.rel c.scope) e f h i j) λp=>some ((!p))
theorem xAt {j p t x y} {d e f h i} {c} (hN:HN B c) (D:Bo B c (qR 2 vH) d j) (E:Bo B c (Pt 2 xC) e p) (F:Bo B c (Pt 1 xF) f t) (A3:Bo B c (Pt 1 xF) h x) (z:Bo B c (Pt 1 (zV 1 xF)) i y):∀ r,lX j p t x y=some r->CG B c 275 #[d,e,f,h,i] (sB r):=by
 refine vW func275 [(0,d),(1,e),(2,f),(3,h),(4,i)] hN λr=>?_;obtain⟨W,rfl,G,I⟩:=vH.o D;refine jX e2 λ_=>xR rfl (jQ (jqbA 0 e3 (xBk E λ_ A=>kN F λK=>kN A3 λL=>eN z λ_ M=>jB λX N=>(gU M N λ_ O=>kN O λP=>eN z λ_ Q=>jB λY R=>(gU Q R (λ_ S=>?_))))));refine kN S λC=>jB λT U=>?_;exact jqk (λH=>xFx aA (vH.m G (H.a I)) (H.a A) K L P C T U) (vY 2 rfl (lE (lY (qJ lv))))
def cX (d:List Int) (e:A7) (f:A6) (h i:Int):Option Bool:= xH (zB e.cons (λj=>lX j f h i d)) λc=>some ((!c))
theorem xCx {t x y z A} {e f i j p} {c} (hN:HN B c) (C:Bo B c (Sl 1 xF) e t) (E:Bo B c (Pt 2 xJ) f x) (F:Bo B c (Pt 2 xC) i y) (A3:Bo B c (Pt 1 xF) j z) (G:Bo B c (Pt 1 xF) p A):∀ r,cX t x y z A=some r->CG B c 274 #[e,f,i,j,p] (sB r):=by
 refine jiN func274 [(0,e),(1,f),(2,i),(3,j),(4,p)] hN λr=>?_;exact xN (jX1 rfl (λH=>(H.a C).one) λ_=>xK rfl (kZ E xJ.f1 λ_ I=>aT I λ_ K=>cU e2 (jB λD L=>(jk (λH=>bZ aA (H.a K) call275 (λM r h W d N f0=>xAt aA f0 ((H.a F).w d) ((H.a A3).w d) ((H.a G).w d) ((c1S (H.g 0 rfl).bk (H.a C)).w d) r h) D L) (qZ 2 rfl (qJ lv))))))
def jZ (N:Nat) (d c:Int) (h:(List Int)->Option Bool):Option Rel:= xH (vO d c) λi=>qD (σ:=List (List Int)) (qU (λj e=>xH (qX N d c (j:Int)) λf=>xH (h f) λp=>if p then xH (ap e ([f])) λt=>some (.go t) else some (.go e)) i.toNat 0 []) λx=>some ((Rel.mk c x))
theorem xGk {f c F} {d h} {i} (hN:HN B i) (A:xM f) (x:xM c) (O:∀ args w,(callFunc d args).run prog w= .ok (.enter d args) w) (P:∀ (G:List Int) (r:Bool),F G=some r->∀ W,Below i.heap.size i W->∀ (I:Vl),Bo (All W) W (Sl 1 xF) I G->Calls prog d ([I]++h:List Vl).toArray W (Gt (All W) W [] (sB r))):∀ r,jZ N f c F=some r->CG B i 273 #[xB f,xB c,.func (.func d) #[] h.toArray] (.v λC=>.fa (xM r.arity) <| .st (.agg #[xB r.arity,C]) λD=>rl 1 (zV 1 xF) 53 C r.tuples::D):=by
 refine vW func273 [(0,xB f),(1,xB c),(2,.func (.func d) #[] h.toArray)] hN λr=>?_;refine aM rfl λj=>qS (jo rfl (qC e5 (aM rfl λp=>kG e3 (cY (jA 2 rfl (jB λK Q=>(jk (λH=>kC aA A x K Q) λE=>xA rfl ?_)))))));refine vA (λR=>.v λy=>.st [(6,oU j),(7,oU p)] [rl 1 (zV 1 xF) 53 y R,bx p [xB c,y] 99,bx j [xB 0,aB] 99]) ?_ (λ_ y=>?_)
 ·
  refine zH (jh (λH=>H.nl 1 (zV 1 xF) 53) ?_);refine jc (λL z=>.v λt=>.st [(15,xB (L:Int)),(0,xB f),(1,xB c),(2,.func (.func d) #[] h.toArray),(6,oU j),(7,oU p),(14,xB K)] [rl 1 (zV 1 xF) 53 t z,bx p [xB c,t] 99,bx j [xB 0,aB] 99]) ⟨_,ls⟩ (λ_ z _ e t=>?_) (λ_ L z e t=>?_)
  ·have S:=vJ e;refine xN (xR rfl (zX S (xP ?_)));exact jf ⟨_,ls⟩
  refine xN (xR rfl (kA (qW e) (oJ ?_)));have M:=vZ e E;refine qH (kW 2 rfl (jA 3 rfl (jB λT U=>(jk (λH=>iM aA A x (dL e E) T U) λ_=>xK rfl (jA 2 rfl (jB λX Y=>?_))))));refine jkV O e2 (λH=>P _ X Y _ H.bl _ (H.l 0 rfl)) (aI (xW ?_ ?_))
  ·refine iQ (oH e2 (jb 2 e3 (jo rfl (jh (λH=>H.os) (tD (λH=>El.sl) λ_=>jB λz4 Z=>(js [1,0,2,3] rfl (jPL Z λv3=>oH e2 (js [1,0,2] rfl (jW (hv:=(λH=>(H.l 1 rfl).one)) e3 (dI (oE M (jo rfl ?_))))))))))));refine aI (js [1,0,2] rfl ?_);exact jg ⟨_,ls⟩
  refine qM (oE M (xA rfl (js [1,2,3] rfl ?_)));exact jg ⟨_,ls⟩
 refine oQ (aH 1 e3 (js [2,0,1] rfl ?_));refine kG (hv:=(λH=>oc rfl (oc (H.l 1 rfl).one on))) e3 (lU ?_);exact j1m (λH=>H.s [1] rfl rfl) (cN 0 e2) ⟨_,x,lv⟩
def gZ (N:Nat) (c:A6) (d:A7):Option (List Rel):= qD (σ:=List Rel) (qU (λe h=>qD (σ:=List Rel) (qU (λi j=>xH (jZ N c.size 2 (λp=>cX p (A7.mk d.vars d.cons) (A6.mk c.size c.rels) (i:Int) (e:Int))) λf=>xH (ap j ([(Rel.mk f.arity f.tuples)])) λt=>some (.go t)) (e:Int).toNat 0 h) λx=>some (.go x)) d.vars.toNat 0 []) λy=>some y
theorem xFn {p c} {A C} {t} (hN:HN B t) (T:Bo B t (qR 2 xC) A p) (U:Bo B t (qR 2 xJ) C c):∀ r,gZ N p c=some r->CG B t 238 #[A,C] (.v λM=>.st (M) λD=>rl 2 oR 99 M r::D):=by
 refine vW func238 [(0,A),(1,C)] hN λr=>?_;obtain⟨E,rfl,O,X⟩:=xC.o T;refine jX e2 (λd=>?_);obtain⟨z,rfl,F,Y⟩:=xJ.o U;refine jX e2 λe=>xK rfl (jR0 oR λv3=>xI rfl (oH e2 (jb 1 e3 (xA rfl (vA (λZ=>.v λG=>.st [(5,G)] [rl 2 oR 99 G Z]) ?_ (λ_ G=>?_))))))
 ·
  refine zH ?_;refine jc (λf I=>.v λx=>.st [(11,xB (f:Int)),(2,oU d),(3,oU e),(5,x),(10,xB c.vars)] [rl 2 oR 99 x I,bx e [xB c.vars,z] 77,bx d [xB p.size,E] 34]) ⟨_,ls⟩ (λ_ I _ i x=>?_) (λ_ f I i x=>?_)
  ·have l2:=vJ i;refine xN (xR rfl (zX l2 (xP (js [0] rfl ?_))));exact jf ⟨_,ls⟩
  refine xN (xR rfl (kA (qW i) (oJ ?_)));have j2:=dL i F;refine qH (jo rfl (aM rfl λP=>jW e3 (qS (jb 0 e3 (xA rfl ?_)))));refine vA (λQ=>.v λK=>.st [(2,oU d),(3,oU e),(5,K),(10,xB c.vars),(11,xB (f:Int))] [rl 2 oR 99 K Q,bx e [xB c.vars,z] 77,bx d [xB p.size,E] 34]) ?_ (λQ K=>?_)
  ·
   refine zH ?_;refine jc (λR S=>.v λL=>.st [(15,xB (R:Int)),(2,oU d),(3,oU e),(5,L),(6,oU P),(10,xB c.vars),(11,xB (f:Int)),(14,xB (f:Int))] [bx P [xB (f:Int)] 2,rl 2 oR 99 L S,bx e [xB c.vars,z] 77,bx d [xB p.size,E] 34]) ⟨_,ls⟩ (λ_ S _ j L=>?_) (λ_ R _ j _=>?_)
   ·have l3:=vJ j;refine xN (xR rfl (zX l3 (xP (js [1,2,3] rfl ?_))));exact jf ⟨_,ls⟩
   refine xN (xR rfl (kA (qW j) (oJ (qH (jo rfl (aM rfl λ_=>jW e3 (eR (jo rfl (oH e2 (jb 4 e3 (cU e2 (jB λz1 c1=>?_))))))))))));refine jk (λH=>xGk aA O pV call274 (λa0 r h W y u0 f0=>xCx aA f0 ((xJ.b (H.g 3 rfl).bk F (H.a Y)).w y) ((xC.b (H.g 4 rfl).bk O (H.a X)).w y) ((c1I (H.g 0 rfl).bk (dL j j2)).w y) ((c1I (H.g 1 rfl).bk j2).w y) r h) z1 c1) λ_ i3=>jh (λH=>oR.w i3 H) (tD (λH=>El.agg) λ_=>jB λz2 c2=>(js [3,0,1,2,4,5] rfl (jPL c2 λv8=>zL 1 rfl (oE (vZ j j2) (xA rfl (js [2,0,3,4] rfl ?_))))));exact jg ⟨_,ls⟩
  refine aK (oE (vZ i F) (xA rfl ?_));exact jg ⟨_,ls⟩
 refine oQ (qZ 2 rfl ?_);exact j1 (rt rfl) ⟨_,lv⟩
def iZ (c d:Int):Option Int:= xH (ck ((if c<d then d else c) - 1)) λe=>xH (ck ((if c<d then d else c)*e)) λf=>xH (dv f 2) λh=>xH (ck (h+(if d<c then d else c))) λi=>some i
theorem yK {c d} {e} (hN:HN B e) (p:xM c) (t:xM d):∀ r,iZ c d=some r->CG B e 277 #[xB c,xB d] (sI r):=by
 refine vW func277 [(0,xB c),(1,xB d)] hN λr=>?_;refine xK rfl (jA 2 rfl (oGp e2 (jA 2 rfl (oGe e2 (kW 2 rfl (jA 2 rfl (jB λx i=>(fR i (jB λy j=>(wT j (jB λz h=>?_)))))))))));refine xSe h (jo rfl (jB λA f=>(kE f (xX rfl ?_))));exact qJ ⟨(zI f),lv⟩
def gI (N:Nat) (h:List Rel) (c d e f:Int):Option Bool:= qD (σ:=Int×Int×Int×Int) (if (decide (d<c)) then some (.nx (d,c,f,e)) else some (.nx (c,d,e,f))) λ(i,j,p,t)=>xH (iZ i j) λx=>xH (ix h x) λy=>xH (lM N y ([p,t])) λz=>some z
theorem rL {D c d e f} {h} {p} (hN:HN B p) (F:Bo B p (Sl 2 oR) h D) (y:xM c) (z:xM d) (A:xM e) (C:xM f):∀ r,gI N D c d e f=some r->CG B p 242 #[h,xB c,xB d,xB e,xB f] (sB r):=by
 refine vW func242 [(0,h),(1,xB c),(2,xB d),(3,xB e),(4,xB f)] hN λr=>?_;refine xI rfl (oD 3 rfl (vA (λ(t,x,i,j)=>.fa (xM t) <| .fa (xM x) <| .fa (xM i) <| .fa (xM j) <| .st [(0,h),(1,xB t),(2,xB x),(3,xB i),(4,xB j)] []) ?_ (λ(t,x,i,j) E G I K=>?_)))
 ·
  refine xW ?_ ?_
  ·refine iQ (oD 8 rfl ?_);exact jf ⟨z,y,C,A,ls⟩
  refine xUv ?_;exact jf ⟨y,z,A,C,ls⟩
 refine oQ (jA 3 rfl (jB λL M=>(jk (λH=>yK aA E G L M) λT=>jB λU O=>(jI F O λ_ P=>jlA P λ_ Q=>jA 2 rfl ?_))));exact jRI [i,j] (by simp only[Al,Aq,Aw,implies_true,and_true];exact⟨I,K⟩) λ_=>jB λR S=>(jk (λH=>uE aA (H.a Q) (H.l 0 rfl) R S) (xX rfl (qJ lv)))
def mF (N:Nat) (d:List Int) (e:(List Rel)) (h p:Int) (c:B0):Option Bool:= xH (ix e h) λt=>xH (lM N t d) λx=>if (!x) then some false else qD (σ:=Unit) (qU (λf s=>match s with | _=>qD (σ:=Bool) (xH (ix d 0) λy=>xH (gI N e c.i c.through y (f:Int)) λz=>if z then xH (ix d 1) λA=>xH (gI N e c.through c.j (f:Int) A) λB=>some (.nx B) else some (.nx false)) λC=>if C then some (.ret true) else some (.go ())) p.toNat 0 ()) λ_=>some false
theorem xIu {A C D i E} {e f p t h} {c} (hN:HN B c) (x:Bo B c (Sl 1 xF) e A) (y:Bo B c (Pt 1 (zV 2 oR)) f C) (K:Bo B c (Pt 1 xF) p D) (A3:Bo B c (Pt 1 xF) t i) (j:Bo B c (Pt 3 xO) h E):∀ r,mF N A C D i E=some r->CG B c 278 #[e,f,p,t,h] (sB r):=by
 refine vW func278 [(0,e),(1,f),(2,p),(3,t),(4,h)] hN λr=>?_;refine xI rfl (aT y λ_ L=>aJ K λ_=>jB λz1 M=>(jI L M λ_ O=>jlA O λ_ P=>jo rfl (jB λQ R=>(jk (λH=>uE aA (H.a P) (H.a x) Q R) (xA rfl (xW ?_ ?_))))))
 ·exact xN (xT rfl (qJ lv))
 refine qY (aJ A3 λF=>xA rfl (vA (λ_=>.st [] []) ?_ (λ_=>?_)))
 ·
  refine zH (jc (λz _=>.st [(16,xB (z:Int)),(0,e),(1,f),(4,h),(15,xB i)] []) ls (λ_ _ _ d=>?_) (λ_ z _ d=>?_))
  ·have S:=vJ d;exact xN (xR rfl (zX S (xP (jf ls))))
  refine xN (xR rfl (kA (qW d) (oJ ?_)));have j1:=dL d F;refine qH (xFz 2 rfl (vA (λT=>.st [(0,e),(1,f),(4,h),(15,xB i),(16,xB (z:Int)),(40,.bool T)] []) ?_ (λ_=>?_)))
  ·
   refine jQ (eN y λ_ U=>cA j xO.f0 λ_ W=>kN W λX=>cA j xO.f2 λ_ Y=>kN Y λZ=>vY 1 rfl (jB λz3 c3=>(gU x c3 λ_ h7=>kN h7 λi4=>vY 1 rfl (jB λz4 c4=>(jqk (λH=>rL aA (H.a U) X Z i4 j1 z4 c4) (vY 1 rfl (dZ 29 (λ_=>?_) (λ_=>?_))))))))
   ·exact eN y λ_ h8=>cA j xO.f2 λ_ h9=>kN h9 λi5=>cA j xO.f1 λ_ G=>kN G λi6=>vY 2 rfl (jB λz5 c5=>(gU x c5 λ_ I=>kN I λi7=>jB λz6 c6=>(jqk (λH=>rL aA (H.a h8) i5 i6 j1 i7 z6 c6) (vY 1 rfl (lE (dA (jf ls)))))))
   exact vY 11 rfl (lE (dA (jf ls)))
  refine dA (xW ?_ ?_)
  ·exact xN (qA 1 rfl (dB (zC (cV (eT (qJ lv))))))
  exact qM (oE (vZ d F) (xA rfl (jg ls)))
 exact oQ (xX rfl (qJ lv))
def jK (N:Nat) (h:Int) (d:List Rel) (c:B0):Option (Bool×(List Rel)):= xH (iZ c.i c.j) λe=>xH (jZ N h 2 (λp=>mF N p d e h (B0.mk c.i c.j c.through))) λf=>xH (ix d e) λt=>if ((f.tuples.length:Int)==(t.tuples.length:Int)) then some (false,d) else some (true,(d.set (e).toNat (Rel.mk f.arity f.tuples)))
theorem xNs {d:Int} {y:List Rel} {z:B0} (r:Bool×(List Rel)) (K:jK N d y z=some r) {f:Vl} {j:Vl} {A:List Nat} (c:Wd) (hN:HN B c) (L:Sep A B c c [rw N0 2 oR 99 f y]) (t:xM d) (M:Bo B c (qR 3 xO) j z):Calls prog 239 #[xB d,f,j] c (Gt B c A (.st (.bool r.1) λD=>rw N0 2 oR 99 f r.2::D)):=by
 unfold jK at K
 revert r
 refine jin func239 [(0,xB d),(1,f),(2,j)] L λr=>?_;refine xN (jX e2 λ_=>jX1 rfl (λH=>(H.r 1 rfl).one) (λ_=>?_));obtain⟨rfl,C,E,O⟩:=xO.o M;refine jX e2 λ_=>xK rfl (oH e2 (jb 0 e3 (oH e2 (jb 0 e3 (jB λP Q=>(jk (λH=>yK aA C E P Q) λG=>aM rfl λ_=>jW e3 (qS (jb 3 e3 (cU e2 (jB λF R=>?_))))))))));refine jk (λH=>xGk aA t pV call278 (λa0 r h W i u0 f0=>xIu aA f0 ((c1S (H.g 2 rfl).bk (H.r 4 rfl)).w i) ((c1I (H.g 0 rfl).bk G).w i) ((c1I (H.g 3 rfl).bk t).w i) ((xO.b (H.g 1 rfl).bk C E O).w i) r h) F R) λS T=>aM rfl (λ_=>?_);refine kG (hv:=(λH=>oc rfl (oc (H.l 1 rfl).one on))) e3 (gL (js [6,0,1,2,3,4,5] rfl (cM λ_ _ _ _ U _ x _=>(jQ (sQ e2 (jqb 0 e3 (oJq (λH=>H.l 1 rfl) λ_=>jqb 4 e3 (jqb 2 e3 (jB λz3 p=>(gU U.rd p λ_ X=>cA X oR.f1 λ_ Y=>eN Y λ_ Z=>jqL Z (λ_=>?_)))))))))));refine vY 1 rfl (lE (dA (xW ?_ ?_)))
 ·refine xN (xT rfl (kY x (js [0] rfl ?_)));exact j1 (rt rfl) lv
 refine qG (jb 4 e3 (jb 2 e3 (aH 0 e3 (kY x (jRi 0 p λ_ I=>js [0,2,1,3,4,5,6] rfl ?_)))));refine jSX (vs:=[xB F.arity,S]) (λH=>.inl ⟨sizeOf99,rfl,(oc rfl (oc (H.l 1 rfl).one on))⟩) (RPt.o I) (bD p) n0 (λH=>λe q=>(Eo.agg (oR.m T q.ld)).tn) rfl (qS (xX rfl (js [0] rfl ?_)));exact j1 (rt rfl) lv
def jU (N:Nat) (h:A6) (c:A7):Option ((List Rel)×(List B0)):= xH (gZ N (A6.mk h.size h.rels) (A7.mk c.vars c.cons)) λP=>qD (σ:=(List B0)×Bool×(List Rel)) (lF (λs=>match s with | (t,x,y)=>if x then qD (σ:=(List B0)×Bool×(List Rel)) (qU (λd s=>match s with | (Q,R,S)=>qD (σ:=(List B0)×Bool×(List Rel)) (qU (λi s=>match s with | (T,U,W)=>qD (σ:=(List B0)×Bool×(List Rel)) (qU (λe s=>match s with | (j,A,f)=>qD (σ:=(List Rel)×Bool) (if ((e:Int) != (i:Int)) then if ((e:Int) != (d:Int)) then xH (jK N h.size f (B0.mk (i:Int) (d:Int) (e:Int))) λz=>some (.nx (z.2,z.1)) else some (.nx (f,false)) else some (.nx (f,false))) λ(p,B)=>if B then xH (ap j ([(B0.mk (i:Int) (d:Int) (e:Int))])) λX=>some (.go (X,true,p)) else some (.go (j,A,p))) c.vars.toNat 0 (T,U,W)) λ(C,D,E)=>some (.go (C,D,E))) (d:Int).toNat 0 (Q,R,S)) λ(F,G,H)=>some (.go (F,G,H))) c.vars.toNat 0 (t,false,y)) λ(I,K,L)=>some (.go (I,K,L)) else some (.brk (t,x,y))) N ([],true,P)) λ(M,Y,O)=>some (O,M)
theorem xHw {h c} {v0 v1} {M} (hN:HN B M) (A0:Bo B M (qR 2 xC) v0 h) (A1:Bo B M (qR 2 xJ) v1 c):∀ r,jU N h c=some r->CG B M 172 #[v0,v1] (.v λaa=>.v λab=>.st (.tuple #[aa,ab]) λD=>rw N0 2 oR 99 aa r.1::rl 3 xO 91 ab r.2::D):=by
 refine vW func172 [(0,v0),(1,v1)] hN λr=>?_;obtain⟨j,rfl,i1,h1⟩:=xC.o A0;refine jX e2 (λd=>?_);obtain⟨i,rfl,A,h2⟩:=xJ.o A1;refine jX e2 λe=>kW 2 rfl (aH 1 e3 (aH 0 e3 (jB λz1 c1=>?_)));refine jk (λH=>xFn aA (xC.m i1 (H.a h1)) (xJ.m A (H.a h2)) z1 c1) λv3=>xK rfl (jR0 xO λv4=>xI rfl (xA rfl (vA (λ(s1,s2,s3)=>.v λv5=>.v λv6=>.st [(6,v6),(7,v5)] [rl 3 xO 91 v5 s1,rw N0 2 oR 99 v6 s3]) ?_ (λ(s1,s2,s3) v5 v6=>?_))))
 ·
  refine zH (js [1,0,2,3] rfl (jh (λH=>H.lw) (js [1,0,2,3] rfl ?_)));refine jw (λ(s4,s5,s6)=>.v λv7=>.v λv8=>.st [(2,oU d),(3,oU e),(6,v8),(7,v7),(8,.bool s5)] [rl 3 xO 91 v7 s4,rw N0 2 oR 99 v8 s6,bx e [xB c.vars,i] 77,bx d [xB h.size,j] 34]) ⟨_,_,ls⟩ (λ_ (s4,s5,s6) v7 v8=>?_);refine xV (xA rfl (xW ?_ ?_))
  ·
   refine xCs (xK rfl (oH e2 (jb 2 e3 (xA rfl ?_))));refine vA (λ(s7,s8,s9)=>.v λv9=>.v λP=>.st [(2,oU d),(3,oU e),(6,P),(7,v9),(8,.bool s8)] [rl 3 xO 91 v9 s7,rw N0 2 oR 99 P s9,bx e [xB c.vars,i] 77,bx d [xB h.size,j] 34]) ?_ (λ(s7,s8,s9) v9 P=>?_)
   ·
    refine zH ?_;refine jc (λf (Q,R,S)=>.v λC=>.v λE=>.st [(20,xB (f:Int)),(2,oU d),(3,oU e),(6,E),(7,C),(8,.bool R),(19,xB c.vars)] [rl 3 xO 91 C Q,rw N0 2 oR 99 E S,bx e [xB c.vars,i] 77,bx d [xB h.size,j] 34]) ⟨_,_,ls⟩ (λ_ (Q,R,S) _ x C E=>?_) (λ_ f (Q,R,S) x C E=>?_)
    ·have l1:=vJ x;refine xN (xR rfl (zX l1 (xP ?_)));exact jf ⟨_,_,ls⟩
    refine xN (xR rfl (kA (qW x) (oJ ?_)));have j1:=dL x A;refine qH (kW 2 rfl (oD 2 rfl ?_));refine vA (λ(ac,ad,ae)=>.v λT=>.v λU=>.st [(2,oU d),(3,oU e),(6,U),(7,T),(8,.bool ad),(19,xB c.vars),(20,xB (f:Int))] [rl 3 xO 91 T ac,rw N0 2 oR 99 U ae,bx e [xB c.vars,i] 77,bx d [xB h.size,j] 34]) ?_ (λ(ac,ad,ae) T U=>?_)
    ·
     refine zH ?_;refine jc (λp (W,X,Y)=>.v λF=>.v λG=>.st [(24,xB (p:Int)),(2,oU d),(3,oU e),(6,G),(7,F),(8,.bool X),(9,xB (f:Int)),(19,xB c.vars),(20,xB (f:Int)),(23,xB (f:Int))] [rl 3 xO 91 F W,rw N0 2 oR 99 G Y,bx e [xB c.vars,i] 77,bx d [xB h.size,j] 34]) ⟨_,_,ls⟩ (λ_ (W,X,Y) _ y F G=>?_) (λ_ p (W,X,Y) y F G=>?_)
     ·have l2:=vJ y;refine xN (xR rfl (zX l2 (xP ?_)));exact jf ⟨_,_,ls⟩
     refine xN (xR rfl (kA (qW y) (oJ ?_)));have j3:=dL y j1;refine qH (kW 2 rfl (oH e2 (jb 2 e3 (xA rfl ?_))));refine vA (λ(af,ag,ah)=>.v λZ=>.v λa0=>.st [(2,oU d),(3,oU e),(6,a0),(7,Z),(8,.bool ag),(9,xB (f:Int)),(19,xB c.vars),(20,xB (f:Int)),(23,xB (f:Int)),(24,xB (p:Int))] [rl 3 xO 91 Z af,rw N0 2 oR 99 a0 ah,bx e [xB c.vars,i] 77,bx d [xB h.size,j] 34]) ?_ (λ(af,ag,ah) Z a0=>?_)
     ·
      refine zH ?_;refine jc (λO (I,K,a1)=>.v λt=>.v λL=>.st [(29,xB (O:Int)),(2,oU d),(3,oU e),(6,L),(7,t),(8,.bool K),(9,xB (f:Int)),(10,xB (p:Int)),(19,xB c.vars),(20,xB (f:Int)),(23,xB (f:Int)),(24,xB (p:Int)),(28,xB c.vars)] [rl 3 xO 91 t I,rw N0 2 oR 99 L a1,bx e [xB c.vars,i] 77,bx d [xB h.size,j] 34]) ⟨_,_,ls⟩ (λ_ (I,K,a1) _ z t L=>?_) (λ_ O (I,K,a1) z t L=>?_)
      ·have l3:=vJ z;refine xN (xR rfl (zX l3 (xP ?_)));exact jf ⟨_,_,ls⟩
      refine xN (xR rfl (kA (qW z) (oJ ?_)));have j4:=dL z A;have m1:=vZ z A;refine qH (kW 2 rfl (jA 3 rfl (qC e5 (aM rfl λb3=>kG e3 (xAo ?_)))));refine vA (λ(ai,aj)=>.v λa2=>.st [(2,oU d),(3,oU e),(6,a2),(7,t),(8,.bool K),(9,xB (f:Int)),(10,xB (p:Int)),(12,oU b3),(19,xB c.vars),(20,xB (f:Int)),(23,xB (f:Int)),(24,xB (p:Int)),(28,xB c.vars),(29,xB (O:Int)),(50,.bool aj)] [bx b3 [xB (p:Int),xB (f:Int),xB (O:Int)] 91,rl 3 xO 91 t I,rw N0 2 oR 99 a2 ai,bx e [xB c.vars,i] 77,bx d [xB h.size,j] 34]) ?_ (λ(ai,aj) a2=>?_)
      ·
       refine iQ (jA 4 rfl (dZ 39 (λ_=>?_) (λ_=>?_)))
       ·
        refine jA 5 rfl (dZ 44 (λ_=>?_) (λ_=>?_))
        ·refine oH e2 (jb 4 e3 (jo rfl (aH 0 e3 (jB λz2 c2=>(js [2,0,1,3,4] rfl ?_)))));refine jko 1 (λK1 H=>xNs z2 c2 _ H.hN K1 i1 (xO.m j3 j1 j4)) (xA rfl (js [1,2,0,3,4] rfl ?_));exact jf ⟨_,ls⟩
        refine oD 6 rfl ?_;exact jf ⟨_,ls⟩
       refine oD 11 rfl ?_;exact jf ⟨_,ls⟩
      refine dA (xW ?_ ?_)
      ·refine xN (jo rfl (aH 0 e3 ?_));refine iX (λH=>Eo.agg (xO.m j3 j1 j4)) λ_=>jB λz3 c3=>(js [2,0,1,3,4,5] rfl (jPL c3 λbd=>jo rfl (eR (zL 1 rfl (oE m1 (xA rfl (js [0,2,3,4] rfl ?_)))))));exact jg ⟨_,_,ls⟩
      refine qM (oE m1 (xA rfl (js [1,2,3,4] rfl ?_)));exact jg ⟨_,_,ls⟩
     refine aK (oE (vZ y j1) (xA rfl ?_));exact jg ⟨_,_,ls⟩
    refine aK (oE (vZ x A) (xA rfl ?_));exact jg ⟨_,_,ls⟩
   refine oBg ?_;exact jg ⟨_,_,ls⟩
  refine mK (jbk (wI (js [0,1] rfl ?_)));exact jf ⟨_,_,ls⟩
 refine oQ (qZ 4 rfl (js [1,0] rfl ?_));exact j2 (rt rfl) (rt rfl) ⟨_,_,lv⟩
def tI (N:Nat) (c:Int) (d:(List Rel)) (e f:Int):Option Bool:= xH (gI N d 0 e f c) λh=>some h
theorem xHg {d i j p} {e f h} {c} (hN:HN B c) (t:xM d) (y:Bo B c (Pt 1 (zV 2 oR)) e i) (z:Bo B c (Pt 1 xF) f j) (A3:Bo B c (Pt 1 xF) h p):∀ r,tI N d i j p=some r->CG B c 279 #[xB d,e,f,h] (sB r):=by
 refine jiN func279 [(0,xB d),(1,e),(2,f),(3,h)] hN λr=>?_;exact xN (xK rfl (aT y λ_ A=>aJ z λC=>aJ A3 λD=>jo rfl (jB λE x=>(jk (λH=>rL aA (H.a A) xU C D t E x) (xX rfl (qJ lv))))))
def xAc (N:Nat) (d e:Int) (f:List Rel) (h:Int):Option Bool:= qD (σ:=Int) (lF (λc=>if (decide (c<e)) then xH (rD 0 d) λi=>xH (vP i (λj=>tI N j f c h)) λp=>if (!p) then some (.ret false) else xH (ck (c+1)) λt=>some (.go t) else some (.brk c)) N 1) λx=>some true
theorem xLk {c d x e} {f} {i} (hN:HN B i) (E:xM c) (O:xM d) (y:Bo B i (Sl 2 oR) f x) (F:xM e):∀ r,xAc N c d x e=some r->CG B i 241 #[xB c,xB d,f,xB e] (sB r):=by
 refine vW func241 [(0,xB c),(1,xB d),(2,f),(3,xB e)] hN λr=>?_;refine jX1 rfl (λH=>(H.a y).one) λz=>jX e2 λA=>xI rfl (aM rfl λP=>jW e3 (aI (vA (λG=>.fa (xM G) <| .st [] []) ?_ (λ_ _=>?_))))
 ·
  refine zH ?_;refine jw (λj=>.n λp=>.fa (xM j) <| .st [(0,xB c),(1,xB d),(6,oU z),(7,oU A),(9,oU p)] [bx p [xB j] 2,bx A [xB e] 2,bx z [f] 32]) ⟨_,zD,ls⟩ λ_ j p C=>xV (jb 0 e3 (oD 2 rfl (xW ?_ ?_)))
  ·
   refine mB (jo rfl (jB λI K=>(jk (λH=>xCi aA xU E I K) λ_=>cU e2 (jB λL M=>(jk (λH=>bB aA (H.l 0 rfl) call279 (λQ r h W t f0=>xHg aA f0 ((c1S (H.g 3 rfl).bk (H.a y)).w t) ((c1I (H.g 1 rfl).bk C).w t) ((c1I (H.g 2 rfl).bk F).w t) r h) L M) (xA rfl (xW ?_ ?_)))))))
   ·exact xN (qA 1 rfl (dB (zC (cV (eT (qJ lv))))))
   refine oBu (jb 1 e3 (eR (aM rfl λR=>jW e3 (eR (jb 0 e3 (jB λS D=>(kE D (jW e3 (aI (js [0,3,4] rfl ?_))))))))));exact jg ⟨_,(zI D),ls⟩
  refine mK (jbk (wI (js [] rfl ?_)));exact jf ⟨C,ls⟩
 exact oQ (xX rfl (qJ lv))
def dQ (N:Nat) (d c h i:Int) (e:(List Rel)) (j:(List Int)):Option Bool:= if (c==0) then xH (xAc N h i e d) λp=>some p else qD (σ:=Unit) (qU (λf s=>match s with | _=>xH (ix j (f:Int)) λt=>xH (gI N e (f:Int) c t d) λx=>if (!x) then some (.ret false) else some (.go ())) c.toNat 0 ()) λ_=>some true
theorem xJh {e j z A C D} {f p t h i} {c} (hN:HN B c) (y:xM e) (x:Bo B c (Pt 1 xF) f j) (K:Bo B c (Pt 1 xF) p z) (A3:Bo B c (Pt 1 xF) t A) (E:Bo B c (Pt 1 (zV 2 oR)) h C) (L:Bo B c (Pt 1 (zV 1 xF)) i D):∀ r,dQ N e j z A C D=some r->CG B c 240 #[xB e,f,p,t,h,i] (sB r):=by
 refine vW func240 [(0,xB e),(1,f),(2,p),(3,t),(4,h),(5,i)] hN λr=>?_;refine xI rfl (aJ x λ_=>xA rfl (xW ?_ ?_))
 ·exact xN (aJ K λM=>aJ A3 λO=>aT E λ_ I=>jo rfl (jB λP Q=>(jk (λH=>xLk aA M O (H.a I) y P Q) (xT rfl (qJ lv)))))
 refine qY (aJ x λF=>xA rfl (vA (λ_=>.st [] []) ?_ (λ_=>?_)))
 ·
  refine zH (jc (λG _=>.st [(17,xB (G:Int)),(0,xB e),(1,f),(4,h),(5,i),(16,xB j)] []) ls (λ_ _ _ d=>?_) (λ_ G _ d=>?_))
  ·have R:=vJ d;exact xN (xR rfl (zX R (xP (jf ls))))
  refine xN (xR rfl (kA (qW d) (oJ (qH (xFz 2 rfl (jQ (eN E λ_ S=>vY 1 rfl (kN x λT=>eN L λ_ U=>vY 1 rfl (jB λz2 W=>?_)))))))));refine gU U W λ_ X=>kN X λY=>vY 1 rfl (jB λZ c3=>(jqk (λH=>rL aA (H.a S) (dL d F) T Y y Z c3) (vY 1 rfl (lE (dA (xW ?_ ?_))))))
  ·exact xN (qA 1 rfl (dB (zC (cV (eT (qJ lv))))))
  exact qM (oE (vZ d F) (xA rfl (jg ls)))
 exact oQ (xX rfl (qJ lv))
def uY (N:Nat) (c d:Int) (h:List Rel):Option ((List Int)×Bool):= qD (σ:=List Int) (qU (λi e=>xH (rD 0 c) λj=>xH (qK j (λp=>dQ N p (i:Int) c d h e)) λf=>if (decide (f<0)) then some (.ret ([],false)) else xH (ap e ([f])) λt=>some (.go t)) d.toNat 0 []) λx=>some (x,true)
theorem xNk {e c C} {j} {t} (hN:HN B t) (z:xM e) (p:xM c) (E:Bo B t (Sl 2 oR) j C):∀ r,uY N e c C=some r->CG B t 173 #[xB e,xB c,j] (.v λA=>.st (.tuple #[A,.bool r.2]) λD=>rl 1 xF 2 A r.1::D):=by
 refine vW func173 [(0,xB e),(1,xB c),(2,j)] hN λr=>?_;refine jX e2 λF=>jX e2 λG=>jX1 rfl (λH=>(H.a E).one) λI=>kW 2 rfl (jR0 xF λX=>aM rfl λi=>jW (hv:=(λH=>(H.l 1 rfl).one)) e3 (cY (jb 3 e3 (xA rfl ?_))));refine vA (λO=>.v λx=>.st [(8,oU i)] [bx i [x] 53,rl 1 xF 2 x O]) ?_ (λ_ x=>?_)
 ·
  refine zH ?_;refine jc (λK L=>.v λy=>.st [(13,xB (K:Int)),(3,oU F),(4,oU G),(5,oU I),(8,oU i),(12,xB c)] [bx i [y] 53,rl 1 xF 2 y L,bx I [j] 32,bx G [xB c] 2,bx F [xB e] 2]) ⟨_,ls⟩ (λ_ L _ d y=>?_) (λ_ K _ d _=>?_)
  ·have P:=vJ d;refine xN (xR rfl (zX P (xP (js [0,1] rfl ?_))));exact jf ⟨_,ls⟩
  refine xN (xR rfl (kA (qW d) (oJ (qH (jo rfl (aM rfl λ_=>jW e3 (qS (jb 5 e3 (jB λQ R=>(jk (λH=>xCi aA xU z Q R) λ_=>cU e2 (jB λS T=>?_)))))))))));refine jk (λH=>bT aA (H.l 0 rfl) call240 (λY r h W f f0=>xJh aA f0 ((c1I (H.g 1 rfl).bk (dL d p)).w f) ((c1I (H.g 6 rfl).bk z).w f) ((c1I (H.g 5 rfl).bk p).w f) ((c1S (H.g 4 rfl).bk (H.a E)).w f) ((c1S (H.g 2 rfl).bk (H.l 3 rfl)).w f) r h) S T) λM=>xI rfl (oD 2 rfl (xW ?_ ?_))
  ·refine xN (jA 2 rfl (aZ (dB (zC (cV (eT (jh (λH=>H.nl 1 xF 2) (js [0] rfl ?_))))))));exact j2 (rt rfl) (rt rfl) ⟨_,lv⟩
  refine xLe (jb 2 e3 (jo rfl (iX (λH=>Eo.int M) λ_=>jB λZ U=>(js [4,0,1,2,3,5,6,7] rfl (jPL U λv5=>js [3,0,1,2,4,5,6] rfl (jW (hv:=(λH=>(H.l 1 rfl).one)) e3 (dI (oE (vZ d p) (xA rfl (js [0,1,4,5,6] rfl ?_))))))))));exact jg ⟨_,ls⟩
 refine oQ (jb 0 e3 (qZ 2 rfl (js [1] rfl ?_)));exact j2 (rt rfl) (rt rfl) ⟨_,lv⟩
def fC (N:Nat) (d:A6) (c:A7) (f:Op):Option (A9×Int):= xH (fZ N (A6.mk d.size d.rels) (A7.mk c.vars c.cons) (Op.mk f.arity f.table) 7) λh=>if (h != 0) then some ((A9.mk 0 ([]) ([]) ([]) ([])),h) else if (c.vars==1) then xH (gA (A6.mk d.size d.rels) (A7.mk c.vars c.cons)) λt=>xH (fN N (A6.mk d.size d.rels) (A7.mk c.vars c.cons) t (λ_=>jV)) λi=>xH (ix i.2 0) λj=>if ((j.length:Int)==0) then some ((A9.mk 1 ([]) i.1 ([]) ([])),0) else xH (sl j 0 1) λx=>some ((A9.mk 0 x ([]) ([]) ([])),0) else xH (jU N (A6.mk d.size d.rels) (A7.mk c.vars c.cons)) λe=>xH (vU e.1 (λy=>nY y)) λz=>if z then some ((A9.mk 2 ([]) ([]) e.2 ([])),0) else xH (uY N d.size c.vars e.1) λp=>if (!p.2) then some ((A9.mk 0 ([]) ([]) ([]) ([])),6) else some ((A9.mk 0 p.1 ([]) ([]) ([])),0)
theorem xAg {E F G} {j p t} {c} (hN:HN B c) (M:Bo B c (qR 2 xC) j E) (O:Bo B c (qR 2 xJ) p F) (P:Bo B c (qR 2 vX) t G):∀ r,fC N E F G=some r->CG B c 115 #[j,p,t] (.v λy=>.v λz=>.v λA=>.fa (xM r.1.kind) <| .fa (xM r.2) <| .st (.tuple #[.agg #[xB r.1.kind,y,z,A,aB],xB r.2]) λD=>ow (V:=(Sl 1 xF)) y r.1.values::rl 3 xS 89 z r.1.arcs::rl 3 xO 91 A r.1.pairs::D):=by
 refine vW func115 [(0,j),(1,p),(2,t)] hN λr=>?_;obtain⟨v3,rfl,d,f⟩:=xC.o M;refine jX e2 (λb1=>?_);obtain⟨aa,rfl,e,i⟩:=xJ.o O;refine jX e2 (λb2=>?_);obtain⟨v4,rfl,Q,R⟩:=vX.o P;refine jX e2 λb3=>aM rfl λb4=>xI rfl (aH 3 e3 (aH 2 e3 (aH 1 e3 (jB λS T=>?_))));refine jk (λH=>tU aA (xC.m d (H.a f)) (xJ.m e (H.a i)) (vX.m Q (H.a R)) xNy S T) λI=>xK rfl (oD 2 rfl (xW ?_ ?_))
 ·refine xN (qC e5 (jo rfl (kG e3 (xT rfl ?_))));exact mA (λH=>((((H.nl 1 xF 2).nl 3 xS 89).nl 3 xO 91).s [2,0,1,3,4,5,6] rfl rfl).os.s [0,2,1] rfl rfl) (cN 0 e2) (rt rfl) ⟨_,_,_,xU,I,lv⟩
 refine qY (oH e2 (jb 2 e3 (xA rfl (xW ?_ ?_))))
 ·
  refine xN (aH 3 e3 (aH 2 e3 (jB λU K=>?_)));refine jk (λH=>uO aA (xC.m d (H.a f)) (xJ.m e (H.a i)) U K) λv5=>xK rfl (aH 4 e3 (aH 3 e3 (jo rfl (jB λX Y=>?_))));refine jko 1 (λZ H=>uU X Y _ H.hN Z (xC.m d (H.u f)) (xJ.m e (H.u i))) λv6=>xI rfl (jo rfl (jB λz4 x=>(js [1,0,2,3,4,5] rfl (cM λ_ _ _ _ g1 _ C _=>(jI g1.ld x λ_ h4=>aT h4 λ_ h5=>jL h5 λ_=>xA rfl (xW ?_ ?_))))))
  ·refine xN (jo rfl ?_);refine qC (hone:=(λH=>oc rfl (oc (H.l 0 rfl).one on))) e5 (js [1,0,2,3,4] rfl ?_);refine kG (hv:=(λH=>oc rfl (oc rfl (oc (H.l 1 rfl).one (oc rfl (oc rfl on)))))) e3 (jo rfl (xJn (kY C ?_)));exact mA (λH=>(((H.nl 1 xF 2).nl 3 xO 91).s [1,0,2,3,4,5,6,7] rfl rfl).os.s [0,4,1] rfl rfl) (cN 1 e2) (rt rfl) ⟨_,_,_,zD,xU,lv⟩
  refine qG (jo rfl (kY C (jRl 0 x λ_ L=>jFoc L (bD x) λ_ _=>jB λz5 c4=>(jCw c4 e3 λv7=>jk (λH=>gX (H.o 0 rfl).one _ H.hN) (js [3,0,1,2,4,5,6] rfl ?_)))));refine kG (hv:=(λH=>oc rfl (oc (H.o 1 rfl).one (oc rfl (oc rfl (oc rfl on)))))) e3 (xT rfl ?_);exact mA (λH=>((H.nl 3 xS 89).nl 3 xO 91).s [3,1,0] rfl rfl) (cN 0 e2) (rt rfl) ⟨_,_,_,xU,xU,lv⟩
 refine qG (aH 3 e3 (aH 2 e3 (jB λz6 c5=>?_)));refine jk (λH=>xHw aA (xC.m d (H.a f)) (xJ.m e (H.a i)) z6 c5) λ_ v8=>fL 5 rfl (jo rfl (jB λz7 c6=>(jk (λH=>aL aA (H.r 0 rfl) call105 (λa0 r h W l1 u0 f0=>xCl aA f0 r h) z7 c6) (aI (xW ?_ ?_)))))
 ·refine xN (jo rfl ?_);refine qC (hone:=(λH=>oc rfl (oc (H.l 1 rfl).one on))) e5 (js [2,0,1,3,4,5] rfl ?_);refine kG (hv:=(λH=>oc rfl (oc rfl (oc rfl (oc (H.l 2 rfl).one (oc rfl on)))))) e3 (xT rfl ?_);exact mA (λH=>(((H.nl 1 xF 2).nl 3 xS 89).s [1,0,2,3,4,5,6,7] rfl rfl).os.s [0,1,4] rfl rfl) (cN 0 e2) (rt rfl) ⟨_,_,_,pV,xU,lv⟩
 refine qG (oH e2 (jb 5 e3 (oH e2 (jb 4 e3 (jo rfl (jB λz8 c7=>(jk (λH=>xNk aA d e (H.r 0 rfl) z8 c7) λv9=>fL 5 rfl (oD 2 rfl (xW ?_ ?_)))))))))
 ·refine xN (qC e5 (js [3,0,1,2,4,5,6] rfl (kG e3 (xT rfl ?_))));exact mA (λH=>((((H.nl 1 xF 2).nl 3 xS 89).nl 3 xO 91).s [2,0,1,3,4,5,6,7,8,9] rfl rfl).os.s [0,2,1] rfl rfl) (cN 0 e2) (rt rfl) ⟨_,_,_,xU,sM,lv⟩
 refine qG (jo rfl (jk (λH=>gX (H.l 0 rfl).one _ H.hN) (js [3,0,1,2,4,5,6] rfl ?_)));refine kG (hv:=(λH=>oc rfl (oc (H.l 1 rfl).one (oc rfl (oc rfl (oc rfl on)))))) e3 (xX rfl ?_);exact mA (λH=>(((H.nl 3 xS 89).nl 3 xO 91).s [3,0,1,2,4,5,6,7,8] rfl rfl).os.s [0,2,1] rfl rfl) (cN 0 e2) (rt rfl) ⟨_,_,_,xU,xU,lv⟩
def mM (N:Nat) (d:Con) (c:A6):Option Bool:= xH (ix c.rels d.rel) λe=>xH (fQ N c.size e) λf=>some ((!f))
theorem xFq {f h} {d e} {c} (hN:HN B c) (p:Bo B c (qR 2 vH) d f) (i:Bo B c (Pt 2 xC) e h):∀ r,mM N f h=some r->CG B c 280 #[d,e] (sB r):=by
 refine vW func280 [(0,d),(1,e)] hN λr=>?_;obtain⟨F,rfl,G,I⟩:=vH.o p;refine jX e2 λ_=>xR rfl (jQ (cA i xC.f0 λ_ j=>kN j λt=>cA i xC.f1 λ_ x=>eN x λ_ y=>sQ e2 (jqb 0 e3 (jB λK z=>(gU y z λ_ A=>xBk A λ_ C=>jB λD E=>(jqk (λH=>xAp aA t (H.a C) D E) ?_))))));exact vY 2 rfl (lE (lY (qJ lv)))
def wC (d:Int) (c:A8) (e:List Int):Option Bool:= qD (σ:=Int) (oM (λf h i=>xH (ix e (f:Int)) λj=>xH (ck (h*j)) λp=>xH (ck (i+p)) λt=>some (.go t)) c.left 0 0) λx=>xH (rm x d) λy=>some ((y==c.right))
theorem xNg {c d x} {j e} {f} (hN:HN B f) (S:xM c) (E:Bo B f (qR 2 xL) j d) (G:Bo B f (Sl 1 xF) e x):∀ r,wC c d x=some r->CG B f 294 #[xB c,j,e] (sB r):=by
 refine vW func294 [(0,xB c),(1,j),(2,e)] hN λr=>?_;obtain⟨p,rfl,y,T⟩:=xL.o E;refine jX e2 λh=>xK rfl (xI rfl (oH e2 (jb 0 e3 (jL y λz=>xA rfl ?_))));refine vA (λA=>.fa (xM A) <| .st [(0,xB c),(4,oU h),(7,xB A)] [bx h [p,xB d.right] 186]) ?_ (λ_ _=>?_)
 ·
  refine zH ?_;refine jl (λC t=>.fa (xM t) <| .st [(13,xB (C:Int)),(0,xB c),(2,e),(4,oU h),(7,xB t),(11,p),(12,xB (d.left.length:Int))] [bx h [p,xB d.right] 186]) ⟨xU,ls⟩ (λ_ t _ I K=>?_) (λC _ _ i L _=>?_)
  ·have M:=oO I;refine xN (xR rfl (zX M (xP ?_)));exact jf ⟨K,ls⟩
  refine xN (xR rfl (kA (xZ i) (oJ ?_)));have j1:=bV (Ae i) z;refine qH (jo rfl (jI y L λ_ N=>aJ N λ_=>jA 2 rfl (eR (jA 4 rfl (jB λU O=>(jI G O λ_ P=>aJ P λ_=>jB λW Q=>(wT Q (jB λX D=>(kE D (jo rfl ?_))))))))));refine dI (oE (qE i z) (xA rfl ?_));exact jg ⟨(zI D),ls⟩
 exact xNh (jQ (vY 2 rfl (jB λY R=>(jqv (λF H w l=>xEv F rfl rfl R) (sQ e2 (jqb 0 e3 (vY 2 rfl (lE (lY (qJ lv))))))))))
def cH (c:List Int) (d:Int) (e:A8):Option Bool:= xH (wC d e c) λf=>some ((!f))
theorem xBh {h i j} {d e f} {c} (hN:HN B c) (p:Bo B c (Sl 1 xF) d h) (t:Bo B c (Pt 1 xF) e i) (x:Bo B c (Pt 2 xL) f j):∀ r,cH h i j=some r->CG B c 293 #[d,e,f] (sB r):=by
 refine jiN func293 [(0,d),(1,e),(2,f)] hN λr=>?_;exact xN (xK rfl (aJ t λy=>jlA x λ_ z=>jo rfl (jB λA C=>(jk (λH=>xNg aA y (H.a z) (H.a p) A C) (qZ 2 rfl (qJ lv))))))
def jY (c:rowT) (d:Int):Option Bool:= xH (ix c.numbers d) λe=>some ((e != 0))
theorem xHz {f h} {d e} {c} (hN:HN B c) (i:Bo B c (qR 2 zU) d f) (j:Bo B c (Pt 1 xF) e h):∀ r,jY f h=some r->CG B c 286 #[d,e] (sB r):=by
 refine vW func286 [(0,d),(1,e)] hN λr=>?_;obtain⟨y,z,rfl,p,A⟩:=zU.o i;exact jX e2 λ_=>xK rfl (oH e2 (jb 0 e3 (aJ j λ_=>jB λC t=>(jI p t λ_ x=>aJ x λ_=>qZ 2 rfl (qJ lv)))))
def kO (c:List rowT) (d:rowT->Option Bool):Option Int:= qD (σ:=Unit) (oM (λe (f:rowT) s=>match s with | _=>xH (d f) λh=>if h then some (.ret ((e:Int))) else some (.go ())) c 0 ()) λ_=>some ((-1))
theorem iC {i j} {f c e} {d} (hN:HN B d) (p:Bo B d (Sl 2 zU) f i) (A:∀ args w,(callFunc c args).run prog w= .ok (.enter c args) w) (C:∀ (t:rowT) (r:Bool),j t=some r->∀ W,Below d.heap.size d W->∀ (x:Vl),Bo (All W) W (qR 2 zU) x t->Calls prog c ([x]++e:List Vl).toArray W (Gt (All W) W [] (sB r))):∀ r,kO i j=some r->CG B d 285 #[f,.func (.func c) #[] e.toArray] (sI r):=by
 refine vW func285 [(0,f),(1,.func (.func c) #[] e.toArray)] hN λr=>?_;refine xI rfl (jo rfl (jL p λy=>xA rfl (vA (λ_=>.st [] []) ?_ (λ_=>?_))))
 ·
  refine zH (jl (λz _=>.st [(8,xB (z:Int)),(0,f),(1,.func (.func c) #[] e.toArray),(7,xB (i.length:Int))] []) ls (λ_ _ _ E=>?_) (λz _ _ h F=>?_))
  ·have G:=oO E;exact xN (xR rfl (zX G (xP (jf ls))))
  refine xN (xR rfl (kA (xZ h) (oJ (qH (kW 2 rfl (jA 3 rfl (jI p F λ_ D=>jlA D λ_ I=>jB λK L=>?_)))))));refine jkV A e2 (λH=>C _ K L _ H.bl _ (H.a I)) (aI (xW ?_ ?_))
  ·refine xN (qA 2 rfl (dB (zC (cV (eT ?_)))));exact qJ ⟨(bV (Ae h) y),lv⟩
  exact qM (oE (qE h y) (xA rfl (jg ls)))
 refine oQ (xX rfl ?_);exact qJ ⟨kV,lv⟩
def pO (c:Int):Option Int:= some c
theorem xBz {c} {d} (hN:HN B d) (e:xM c):∀ r,pO c=some r->CG B d 249 #[xB c] (sI r):=by
 refine vW func249 [(0,xB c)] hN λr=>?_;refine xK rfl (qZ 2 rfl ?_);exact qJ ⟨e,lv⟩
def bQ (c:rowT) (d:Int) (e:rowT) (f:Int):Option rowT:= xH (oV c.numbers) λx=>xH (oV c.bys) λy=>qD (σ:=List Int) (oM (λh (z:Int) i=>xH (ix i (h:Int)) λA=>xH (ck (f*z)) λB=>xH (ck (A+B)) λC=>xH (rm C d) λD=>some (.go (i.set ((h:Int)).toNat D))) e.numbers 0 x) λE=>qD (σ:=List Int) (oM (λj (F:Int) p=>xH (ix p (j:Int)) λG=>xH (ck (f*F)) λH=>xH (ck (G+H)) λI=>xH (rm I d) λt=>some (.go (p.set ((j:Int)).toNat t))) e.bys 0 y) λK=>some ((rowT.mk E K))
theorem sL {x0 e C h} {R S} {E} (hN:HN B E) (A0:Bo B E (qR 2 zU) R x0) (a2:xM e) (A2:Bo B E (qR 2 zU) S C) (bh:xM h):∀ r,bQ x0 e C h=some r->CG B E 287 #[R,xB e,S,xB h] (.v λa3=>.v λa4=>.st (.agg #[a3,a4]) λD=>rl 1 xF 2 a3 r.numbers::rl 1 xF 2 a4 r.bys::D):=by
 refine vW func287 [(0,R),(1,xB e),(2,S),(3,xB h)] hN λr=>?_;obtain⟨v1,v3,rfl,h1,h2⟩:=zU.o A0;refine jX e2 (λ_=>?_);obtain⟨t,x,rfl,h3,h4⟩:=zU.o A2;refine jX e2 λi=>aM rfl λc=>xAo (jB λz c1=>(jB λy c2=>(js [2,0,1] rfl (cM λw1 X1 N1 a5 g1 G L _=>?_))));have K1:=g1.bk;refine jD ?_;refine jdp (f:=1) (ls:=(bi 9 255)) (.n λd=>.v λT=>.v λj=>.st [(1,xB e),(3,xB h),(6,oU i),(8,oU c),(9,oU d),(20,(.agg #[T,j]))] [bx d [aB,aB] 285,rl 1 xF 2 T z,rl 1 xF 2 j y,bx c [aB,aB] 285,bx i [t,x] 285]) (λd T j=>?_) (λH1=>?_)
 ·
  refine jE 8 rfl ?_;refine kG (hv:=(λH=>oc (H.l 1 rfl).one (oc (H.l 2 rfl).one on))) e3 (qT (gV (bX (oH e2 (jb 4 e3 (jL h3 λi1=>xA rfl ?_))))));refine vA (λI=>.v λp=>.st [(1,xB e),(3,xB h),(6,oU i),(8,oU c),(9,oU d)] [bx d [p,j] 285,rl 1 xF 2 p I,rl 1 xF 2 j y,bx c [aB,aB] 285,bx i [t,x] 285]) ?_ (λI p=>?_)
  ·
   refine zH ?_;refine jl (λk1 U=>.v λK=>.st [(24,xB (k1:Int)),(1,xB e),(3,xB h),(6,oU i),(8,oU c),(9,oU d),(22,t),(23,xB (C.numbers.length:Int))] [bx d [K,j] 285,rl 1 xF 2 K U,rl 1 xF 2 j y,bx c [aB,aB] 285,bx i [t,x] 285]) ⟨_,ls⟩ (λ_ U _ q1 K=>?_) (λk1 _ U M y1 K=>?_)
   ·have l1:=oO q1;refine xN (xR rfl (zX l1 (xP ?_)));exact jf ⟨_,ls⟩
   refine xN (xR rfl (kA (xZ M) (oJ ?_)));have j1:=bV (Ae M) i1;refine qH (jo rfl (jI h3 y1 λ_ h5=>aJ (s:=λH=>(a5.trans (Sm.mono H.sm L.2.2))) h5 λ_=>oD 2 rfl (jB λz3 W=>(jB λz4 c4=>(jB λz5 c5=>(jB λz6 c6=>(jh (λH=>H.mg) (cM λ_ _ _ _ g2 _ aw _=>?_))))))));have K2:=g2.l.bk;refine jD (kJ 0 rfl e2 (gH 1 rfl K2 e2 (zG [2] rfl (kJ 3 rfl e2 (gH 4 rfl K2 e2 (zG [5] rfl (nM 6 rfl g2.r.ld W λ_ h6=>aY 7 rfl h6 λ_=>zG [8,9] rfl (jvz 10 rfl (λF H w l=>yB F rfl rfl c4) (jvz 11 rfl (λF H w l=>wF F rfl rfl c5) (zG [12] rfl (jvz 13 rfl (λF H w l=>xEv F rfl rfl c6) (jF9 14 rfl ?_))))))))))));refine kY aw (jh (λH=>H.um) (jRl 1 W λ_ ax=>aI (jF9 15 rfl (js [1,0,2,3,4] rfl (jh (λH=>H.lw) (jS ax (cI W) (λH=>Eo.int (xHh c6 (zI c5) a2)) rfl (jh (λH=>H.tl) (aI (gV (aK (oE (qE M i1) (xA rfl ?_))))))))))));refine js [1,0,2,3,4] rfl ?_;exact jg ⟨_,ls⟩
  refine bX (oH e2 (jb 4 e3 (jL h4 λi2=>xA rfl ?_)));refine vA (λs3=>.v λX=>.st [(8,oU c),(9,oU d)] [bx d [p,X] 285,rl 1 xF 2 p I,rl 1 xF 2 X s3,bx c [aB,aB] 285]) ?_ (λ_ X=>?_)
  ·
   refine zH (js [0,1,2,3] rfl ?_);refine jl (λk2 Y=>.v λA=>.st [(48,xB (k2:Int)),(1,xB e),(3,xB h),(8,oU c),(9,oU d),(46,x),(47,xB (C.bys.length:Int))] [bx d [p,A] 285,rl 1 xF 2 p I,rl 1 xF 2 A Y,bx c [aB,aB] 285]) ⟨_,ls⟩ (λ_ Y _ q2 A=>?_) (λk2 _ Y N y2 A=>?_)
   ·have l2:=oO q2;refine xN (xR rfl (zX l2 (xP ?_)));exact jf ⟨_,ls⟩
   refine xN (xR rfl (kA (xZ N) (oJ ?_)));have j2:=bV (Ae N) i2;refine qH (jo rfl (jI h4 y2 λ_ h7=>aJ (s:=λH=>(a5.trans (Sm.mono H.sm L.2.2))) h7 λ_=>oD 2 rfl (jB λz7 Z=>(jB λz8 c8=>(jB λz9 c9=>(jB λbj a6=>(js [0,2,1,3] rfl (jh (λH=>H.mg) (cM λ_ _ _ _ g3 _ ay _=>?_)))))))));have K3:=g3.l.bk;refine jD (kJ 0 rfl e2 (gH 1 rfl K3 e2 (zG [2] rfl (kJ 3 rfl e2 (gH 4 rfl K3 e2 (zG [5] rfl (nM 6 rfl g3.r.ld Z λ_ h8=>aY 7 rfl h8 λ_=>zG [8,9] rfl (jvz 10 rfl (λF H w l=>yB F rfl rfl c8) (jvz 11 rfl (λF H w l=>wF F rfl rfl c9) (zG [12] rfl (jvz 13 rfl (λF H w l=>xEv F rfl rfl a6) (jF9 14 rfl ?_))))))))))));refine kY ay (jh (λH=>H.um) (jRl 1 Z λ_ az=>aI (jF9 15 rfl (js [1,0,2,3] rfl (jh (λH=>H.lw) (jS az (cI Z) (λH=>Eo.int (xHh a6 (zI c9) a2)) rfl (jh (λH=>H.tl) (aI (gV (aK (oE (qE N i2) (xA rfl ?_))))))))))));refine js [1,2,0,3] rfl ?_;exact jg ⟨_,ls⟩
  refine oQ (aH 0 e3 (js [3,0,1,2] rfl ?_));refine kG (hv:=(λH=>oc (H.l 2 rfl).one (oc (H.l 3 rfl).one on))) e3 (lU (kY L ?_));exact j1m (λH=>H.s [3,4] rfl rfl) (cN 1 e2) ⟨_,_,lv⟩
 refine jdp (f:=2) (ls:=(bi 9 191)) (.n λb4=>.v λO=>.v λP=>.st [(1,xB e),(3,xB h),(6,oU i),(8,oU c),(9,oU b4),(16,O),(19,P)] [bx b4 [aB,aB] 285,rl 1 xF 2 O z,rl 1 xF 2 P y,bx c [aB,aB] 285,bx i [t,x] 285]) (λb4 O P=>?_) (λH2=>?_)
 ·refine jE 6 rfl ?_;refine qC (hone:=(λH=>oc (H.l 1 rfl).one (oc (H.l 2 rfl).one on))) e5 (qT ?_);exact H1 ⟨_,_,_,ls⟩
 refine jdp (f:=3) (ls:=(bi 9 159)) (.n λb5=>.v λQ=>.st [(1,xB e),(3,xB h),(6,oU i),(8,oU c),(9,oU b5),(16,Q),(18,v3)] [bx b5 [aB,aB] 285,rl 1 xF 2 Q z,bx c [aB,aB] 285,bx i [t,x] 285]) (λb5 Q=>?_) (λH3=>?_)
 ·refine jE 5 rfl (jk (λH=>qV aA (H.a (G h2)) y c2) λbm=>qT (js [1,2,0,3,4] rfl ?_));exact H2 ⟨_,_,_,ls⟩
 refine kJ 0 rfl e2 (gH 1 rfl K1 e2 (kJ 3 rfl e2 (gH 4 rfl K1 e2 (dV (λH=>H) 2 7 rfl rfl ?_ ?_))))
 ·
  refine jk (λH=>qV aA (H.a (G h1)) z c1) λbn=>qT (dV (λH=>H) 5 7 rfl rfl ?_ ?_)
  ·
   refine jk (λH=>qV aA (H.a (G h2)) y c2) λbp=>qT (dV (λH=>H) 6 7 rfl rfl ?_ ?_)
   ·refine qC (hone:=(λH=>oc (H.l 1 rfl).one (oc (H.l 0 rfl).one on))) e5 (qT (jE 7 rfl (aM rfl λb6=>qT (js [0,2,1,3,4] rfl ?_))));exact H1 ⟨_,_,_,ls⟩
   refine aM rfl λb7=>qT (js [0,2,1,3,4] rfl ?_);exact H2 ⟨_,_,_,ls⟩
  refine aM rfl λb8=>qT ?_;exact H3 ⟨_,_,ls⟩
 refine aM rfl λb9=>qT (jE 2 rfl (jk (λH=>qV aA (H.a (G h1)) z c1) λbr=>qT (js [1,0,2,3] rfl ?_)));exact H3 ⟨_,_,ls⟩
def lA (c:rowT) (d f:Int):Option rowT:= xH (ck (f - 1)) λh=>xH (ck (h+d)) λi=>xH (bQ (rowT.mk c.numbers c.bys) d (rowT.mk c.numbers c.bys) i) λe=>some ((rowT.mk e.numbers e.bys))
theorem yJ {j c d} {e} {f} (hN:HN B f) (z:Bo B f (qR 2 zU) e j) (y:xM c) (F:xM d):∀ r,lA j c d=some r->CG B f 248 #[e,xB c,xB d] (.v λh=>.v λi=>.st (.agg #[h,i]) λD=>rl 1 xF 2 h r.numbers::rl 1 xF 2 i r.bys::D):=by
 refine vW func248 [(0,e),(1,xB c),(2,xB d)] hN λr=>?_;obtain⟨G,I,rfl,p,t⟩:=zU.o z;refine jX e2 λ_=>aM rfl λ_=>qS (aH 1 e3 (jo rfl (aH 1 e3 (jo rfl (jB λK A=>(fR A (jo rfl (jB λL x=>(kE x (jB λC E=>(jk (λH=>sL aA (zU.m (H.a p) (H.a t)) y (zU.m (H.a p) (H.a t)) (zI x) C E) λM N=>js [2,0,1,3] rfl ?_)))))))))));refine kG (hv:=(λH=>oc (H.l 1 rfl).one (oc (H.l 2 rfl).one on))) e3 (lU ?_);exact j1m (λH=>H.s [1,2] rfl rfl) (cN 0 e2) ⟨_,_,lv⟩
end
section
open Go.Proofs.Tryz
set_option maxHeartbeats 1000000
set_option maxRecDepth 100000
open Go.RowKit
variable {B:Nat->Prop} {N:Nat}
def gO (e:B3):Option ((List rowT)×(List Int)):= qD (σ:=List rowT) (oM (λB (C:A8) M=>xH (nJ (0:Int) (e.list.length:Int)) λD=>xH (ix D (B:Int)) λX=>xH (oV C.left) λN=>xH (ap N ([C.right])) λO=>xH (ap M ([(rowT.mk O (D.set ((B:Int)).toNat 1))])) λP=>some (.go P)) e.list 0 []) λQ=>qD (σ:=(List Int)×(List rowT)) (qU (λh s=>match s with | (c,d)=>xH (sl d (c.length:Int) (d.length:Int)) λR=>xH (kO R (λS=>jY S (h:Int))) λE=>if (decide (E<0)) then some (.go (c,d)) else xH (ck ((c.length:Int)+E)) λi=>xH (ix d i) λx=>xH (ix d (c.length:Int)) λp=>xH (ix ((d.set ((c.length:Int)).toNat x).set (i).toNat p) (c.length:Int)) λz=>xH (ix z.numbers (h:Int)) λF=>xH (pO F) λG=>xH (lA z e.prime G) λf=>qD (σ:=List rowT) (oM (λy (Y:rowT) j=>xH (ix j (y:Int)) λt=>if ((y:Int) != (c.length:Int)) then xH (ix j (c.length:Int)) λH=>xH (ix t.numbers (h:Int)) λI=>xH (ck (e.prime - I)) λK=>xH (bQ (rowT.mk t.numbers t.bys) e.prime H K) λA=>some (.go (j.set ((y:Int)).toNat (rowT.mk A.numbers A.bys))) else some (.go j)) (((d.set ((c.length:Int)).toNat x).set (i).toNat p).set ((c.length:Int)).toNat (rowT.mk f.numbers f.bys)) 0 (((d.set ((c.length:Int)).toNat x).set (i).toNat p).set ((c.length:Int)).toNat (rowT.mk f.numbers f.bys))) λT=>xH (ap c ([(h:Int)])) λL=>some (.go (L,T))) e.unknowns.toNat 0 ([],Q)) λ(U,W)=>some (W,U)
theorem tT {c} {v0} {w0} (hN:HN B w0) (A0:Bo B w0 (qR 3 oZ) v0 c):∀ r,gO c=some r->CG B w0 245 #[v0] (.v λac=>.v λad=>.st (.tuple #[ac,ad]) λD=>rw N0 2 zU 285 ac r.1::rl 1 xF 2 ad r.2::D):=by
 refine vW func245 [(0,v0)] hN λr=>?_;obtain⟨t,rfl,i1,i2,h1⟩:=oZ.o A0;refine jX e2 λi=>kW 2 rfl (jR0 zU λd9=>xI rfl (oH e2 (jb 1 e3 (jL h1 λi3=>xA rfl ?_))));refine vA (λs1=>.v λv2=>.st [(1,oU i),(4,v2)] [rl 2 zU 285 v2 s1,bx i [xB c.prime,xB c.unknowns,t] 150]) ?_ (λs1 v2=>?_)
 ·
  refine zH ?_;refine jl (λL M=>.v λy=>.st [(18,xB (L:Int)),(1,oU i),(4,y),(16,t),(17,xB (c.list.length:Int))] [rl 2 zU 285 y M,bx i [xB c.prime,xB c.unknowns,t] 150]) ⟨_,ls⟩ (λ_ M _ q1 y=>?_) (λL x1 M O y1 y=>?_)
  ·have l2:=oO q1;refine xN (xR rfl (zX l2 (xP ?_)));exact jf ⟨_,ls⟩
  refine xN (xR rfl (kA (xZ O) (oJ ?_)));have j1:=bV (Ae O) i3;refine qH (jo rfl (jI h1 y1 λ_ h2=>jlA h2 λ_ h3=>aM rfl λ_=>jo rfl ?_));obtain⟨v4,rfl,h4,i4⟩:=xL.o h3;refine kG (hv:=(λH=>oc (H.a h4).one (oc rfl on))) e3 (qS (oH e2 (jb 2 e3 (jL h1 λ_=>jB λz1 c1=>?_))));refine jRM (R:=xF) (λw=>⟨rfl,kS,rfl⟩) c1 λv5=>xK rfl (jA 2 rfl (jB λz2 c2=>(jRl 0 c2 λ_ bg=>jh (λH=>H.lw) (jS bg (cI c2) (λH=>Eo.int zD) rfl (jh (λH=>H.tl) (aI (jB λz3 c3=>(jB λz4 c4=>(jB λz5 c5=>(js [1,0,2,3] rfl (cM λw1 X1 N1 _ g1 e1 bh _=>?_)))))))))));have K1:=g1.bk;refine jD ?_;refine jdp (f:=5) (ls:=(bi 13 383)) (.v λv6=>.v λv7=>.st [(1,oU i),(4,y),(16,t),(17,xB (c.list.length:Int)),(18,xB (L:Int)),(30,y),(33,v6),(36,v7),(38,v5)] [rl 1 xF 2 v6 z3,rl 1 xF 2 v7 ([x1.right]),rl 1 xF 2 v5 (z1.set ((L:Int)).toNat 1),rl 2 zU 285 y M,bx i [xB c.prime,xB c.unknowns,t] 150]) (λ_ _=>?_) (λH1=>?_)
  ·refine jE 7 rfl (jPL c4 λ_=>qT (jE 9 rfl ?_));refine qC (hone:=(λH=>oc (H.l 0 rfl).one (oc (H.l 1 rfl).one on))) e5 (qT (jE 10 rfl (jh (λH=>zU.w H) (tD (λH=>El.agg) λ_=>qT (jE 11 rfl (js [1,0,2] rfl (jPL c5 λv8=>qT (zG [12] rfl (gV (aK (oE (qE O i3) (jo rfl ?_))))))))))));refine aI (kY bh (js [1,2] rfl ?_));exact jg ⟨_,ls⟩
  refine zG [0] rfl (kJ 1 rfl e2 (gH 2 rfl K1 e2 (kJ 4 rfl e2 (gH 5 rfl K1 e2 (zG [8] rfl (dV (λH=>H) 3 6 rfl rfl ?_ ?_))))))
  ·refine jk (λH=>qV aA (H.a (e1 h4)) z3 c3) λv9=>qT (jE 6 rfl (iX (λH=>Eo.int i4) λda=>qT (js [1,0,2,3,4] rfl ?_)));exact H1 ⟨_,_,ls⟩
  refine iX (λH=>Eo.int i4) λdb=>qT (jE 3 rfl (jk (λH=>qV aA (H.a (e1 h4)) z3 c3) λdc=>qT ?_));exact H1 ⟨_,_,ls⟩
 refine oQ (jR0 xF λdd=>xI rfl (oH e2 (jb 2 e3 (xA rfl (vA (λ(s3,s4)=>.v λP=>.v λQ=>.st [(4,Q),(8,P)] [rl 1 xF 2 P s3,rw N0 2 zU 285 Q s4]) ?_ (λ(s3,s4) P Q=>?_))))))
 ·
  refine zH (js [1,0,2] rfl (jh (λH=>H.lw) (js [1,0,2] rfl ?_)));refine jc (λz (d,j)=>.v λp=>.v λA=>.st [(46,xB (z:Int)),(1,oU i),(4,A),(8,p),(45,xB c.unknowns)] [rl 1 xF 2 p d,rw N0 2 zU 285 A j,bx i [xB c.prime,xB c.unknowns,t] 150]) ⟨_,_,ls⟩ (λ_ (d,j) _ C p A=>?_) (λ_ z (d,j) C p A=>?_)
  ·have l3:=vJ C;refine xN (xR rfl (zX l3 (xP (js [0,1] rfl ?_))));exact jf ⟨_,_,ls⟩
  refine xN (xR rfl (kA (qW C) (oJ ?_)));have j3:=dL C i2;have m1:=vZ C i2;refine qH (jo rfl (aM rfl λN=>jW e3 (qS (jo rfl (nO (λH=>H.l 1 rfl) λ_=>xK rfl (jA 2 rfl (jB λz6 c6=>(js [2,0,1,3] rfl (cM λ_ _ _ _ g2 _ ae _=>(jC rfl rfl g2.rd c6 λ_ h5=>cU e2 ?_))))))))));refine jB λz7 c7=>(jk (λH=>iC aA (H.a h5) call286 (λa0 r h W l1 u0 f0=>xHz aA f0 ((c1I (H.g 0 rfl).bk j3).w l1) r h) z7 c7) λde=>xI rfl (oD 2 rfl (xW ?_ ?_)))
  ·refine xQk (oE m1 (xA rfl (js [1,2] rfl (kY ae (js [1,0,2] rfl ?_)))));exact jg ⟨_,_,ls⟩
  refine oJ (kY ae (jB λx c8=>(jB λz9 I=>(jB λbj E=>?_))));have lx1288:((d.length:Int)).toNat<j.length:=(Ac.1 (aE E).2).1;have ly1288:x.toNat<j.length:=(Ac.1 (aE I).2).1;refine xMs (λH=>H.opw (Nat.zero_lt_of_lt lx1288)) λ⟨g3,df,cs1288⟩ hV1288=>jfc (λH=>H.sw.onw) (λab=>?_);have hle1288:j.length*2<=cs1288.length:=hV1288.le;have k3:=xAz (cs:=cs1288) (sz:=2) lx1288 hle1288;have kk1288:=xAz (cs:=cs1288) (sz:=2) ly1288 hle1288;have dl1288:0<=((d.length:Int):Int)/\((d.length:Int):Int)<(j.length:Int):=⟨(aE E).1,by have:=(aE E).1;omega⟩;have al1288:0<=x/\x<(j.length:Int):=⟨(aE I).1,by have:=(aE I).1;omega⟩;refine jev 4 hV1288.e (cM λ_ _ _ _ g9 _ bm _=>?_);have K2:=g9.bk;refine jD (zG [0,1,2,3,4] rfl (jvz 5 rfl (λF H w l=>wF F rfl rfl c8) (zG [6,7,8] rfl (jvz 9 rfl (λF H w l=>wF F rfl rfl c8) (xHb 10 rfl al1288 ?_)))));refine rQ 11 rfl K2 ⟨rfl,(rfl:_=cl cs1288 2 x.toNat)⟩ ?_ (hl:=kk1288);refine zG [12,13] rfl (xHb 14 rfl dl1288 ?_);refine rQ 15 rfl K2 ⟨rfl,(rfl:_=cl cs1288 2 ((d.length:Int)).toNat)⟩ ?_ (hl:=k3);refine xHb 16 rfl dl1288 (jF9 17 rfl (kY bm ?_));refine kG (hv:=λ_ v hv=>ab _ _ (aE I).2 v hv) ⟨rfl,rfl,(rfl:_=wr cs1288 (((d.length:Int)).toNat*2) (cl cs1288 2 x.toNat))⟩ ?_ kk1288 (ho:=by rw[kk1288,Nat.ble_eq];(try dsimp only);omega);refine c_e (c_n (xHb 18 rfl al1288 (jF9 19 rfl ?_)));refine kG (hv:=λ_ v hv=>ab _ _ (aE E).2 v hv) ⟨rfl,rfl,(rfl:_=wr (wr cs1288 (((d.length:Int)).toNat*2) (cl cs1288 2 x.toNat)) (x.toNat*2) (cl cs1288 2 ((d.length:Int)).toNat))⟩ ?_ k3 (ho:=by rw[k3,tS (by(try dsimp only);omega),Nat.ble_eq];(try dsimp only);omega);refine c_e (c_n (gV ?_));refine jh (λH=>(H.sw.sww (aE E).2 (aE I).2 hle1288).sw.clw (v:=A) ⟨by rw[Cl,Cl];exact hV1288.e,by rw[Cl,Cl,tS (by rw[tS xG];omega),tS xG];exact hV1288.h⟩) (jev 4 hV1288.e.symm (xNh (jB λdg K=>(jB λdh bn=>(jB λbp br=>(jB λS bs=>(js [0,1,3,2] rfl (jh (λH=>H.mg) (jh (λH=>H.mg) (cM λ_ _ _ _ g4 _ bt _=>?_))))))))));have h6:=g4.l.l.rd;refine jD (zG [0,1,2,3] rfl (nM 4 rfl h6 K λ_ h7=>xFu 5 rfl h7 λ_ h8=>kJ 6 rfl e2 (gH 7 rfl g4.r.bk e2 (zG [8,9] rfl (nM 10 rfl h6 K λ_ h9=>gR 11 rfl h9 zU.f0 λ_ bu=>rB 12 rfl bu λ_ bv=>gH 13 rfl g4.l.r.bk e2 (nM 14 rfl bv bn λ_ bw=>aY 15 rfl bw λi5=>jE 16 rfl (jk (λH=>xBz aA i5 bp br) (λc0=>?_))))))));refine qT (jE 17 rfl (jk (λH=>yJ aA (H.a h8) i1 c0 S bs) λaf ag=>qT (jF9 18 rfl (kY bt (jh (λH=>H.um) (jh (λH=>H.um) (jRi 0 K λ_ rp2=>aI (jF9 19 rfl ?_))))))));refine jfc (λH=>show ∀ v∈([af,ag]:List Vl),v.oneCell'=true from (oc ((H.s [0,3,4,1,2,5] rfl rfl).l 1 rfl).one (oc ((H.s [0,3,4,1,2,5] rfl rfl).l 2 rfl).one on))) λon_1=>js [0,3,4,1,2,5] rfl (jh (λH=>H.mg2) ?_);refine jSX (vs:=[af,ag]) (λH=>.inl ⟨sizeOf285,rfl,on_1⟩) (RPt.o rp2) (bD K) (nel n0 n0) (λH=>λe q=>(Eo.agg (zU.m q.l.ld q.r.ld)).tn) rfl (aI (gV (bX (jo rfl (nO (λH=>H.r 0 rfl) λi6=>xA rfl ?_)))))
  refine vA (λs7=>.v λT=>.st [(1,oU i),(4,T),(8,p),(9,oU N),(45,xB c.unknowns),(46,xB (z:Int))] [rw N0 2 zU 285 T s7,bx N [xB (z:Int)] 2,bx i [xB c.prime,xB c.unknowns,t] 150,rl 1 xF 2 p d]) ?_ (λs7 T=>?_)
  ·
   refine zH ?_;refine jl (λk4 s8=>.v λG=>.st [(97,xB (k4:Int)),(1,oU i),(4,G),(8,p),(9,oU N),(10,xB (d.length:Int)),(45,xB c.unknowns),(46,xB (z:Int)),(95,G),(96,xB ((((j.set ((d.length:Int)).toNat z9).set (x).toNat bj).set ((d.length:Int)).toNat (rowT.mk S.numbers S.bys)).length:Int))] [rw N0 2 zU 285 G s8,bx N [xB (z:Int)] 2,bx i [xB c.prime,xB c.unknowns,t] 150,rl 1 xF 2 p d]) ⟨_,ls⟩ (λ_ s8 _ q2 G=>?_) (λk4 _ s8 U _ G=>?_)
   ·have l4:=oO q2;refine xN (xR rfl (zX l4 (xP ?_)));exact jf ⟨_,ls⟩
   refine xN (xR rfl (kA (xZ U) (oJ ?_)));have j4:=bV (Ae U) i6;have m2:=qE U i6;refine qH (jo rfl (jB λdi X=>(cM λ_ _ _ _ g5 _ ah _=>?_)));have ai:=g5.rd;refine jI ai X λ_ h15=>jlA h15 λ_ h16=>aM rfl λ_=>jo rfl ?_;obtain⟨dj,dk,rfl,Y,aj⟩:=zU.o h16;refine kG (hv:=(λH=>oc (H.a Y).one (oc (H.a aj).one on))) e3 (qS (oD 3 rfl (xW ?_ ?_)))
   ·refine jB λdm c17=>(jB λdp c18=>(jB λdq ak=>(jB λz19 c20=>(jh (λH=>H.mg) (jh (λH=>H.mg) (cM λ_ _ _ al g6 e4 Z _=>?_))))));have K3:=g6.l.l.bk;have K4:=g6.r.bk;refine jD (zG [0,1] rfl (rQ 2 rfl K3 e2 (kJ 3 rfl e2 (gH 4 rfl K4 e2 (zG [5,6] rfl (nM 7 rfl ai c17 λ_ h19=>xFu (s:=λH w l=>(al.trans (Sm.mono (H.v w l) Z.2.2))) 8 rfl h19 λ_ c9=>kJ 9 rfl e2 (gH 10 rfl K4 e2 (kJ 11 rfl e2 (gH 12 rfl K3 e2 (gH 13 rfl g6.l.r.bk e2 (nM 14 rfl Y c18 λ_ ca=>aY (s:=λH w l=>(al.trans (Sm.mono (H.v w l) Z.2.2))) 15 rfl ca (λ_=>?_))))))))))));refine jvz 16 rfl (λF H w l=>xBi F rfl rfl ak) (jE 17 rfl (jk (λH=>sL aA (zU.m (H.a (e4 Y)) (H.a (e4 aj))) i1 (H.a (e4 c9)) (zI ak) z19 c20) λam an=>qT (jF9 18 rfl (kY Z (jh (λH=>H.um) (jh (λH=>H.um) (kY ah (jRi 0 X λ_ cb=>aI (jF9 19 rfl ?_)))))))));refine jfc (λH=>show ∀ v∈([am,an]:List Vl),v.oneCell'=true from (oc ((H.s [0,4,5,1,2,3,6] rfl rfl).l 1 rfl).one (oc ((H.s [0,4,5,1,2,3,6] rfl rfl).l 2 rfl).one on))) λon_2=>js [0,4,5,1,2,3,6] rfl (jh (λH=>H.mg2) ?_);refine jSX (vs:=[am,an]) (λH=>.inl ⟨sizeOf285,rfl,on_2⟩) (RPt.o cb) (bD X) (nel n0 n0) (λH=>λe q=>(Eo.agg (zU.m q.l.ld q.r.ld)).tn) rfl (aI (gV (aK (oE m2 (xA rfl (js [0,2,3,4] rfl ?_))))));exact jg ⟨_,ls⟩
   refine qM (oE m2 (xA rfl (js [1,2,3] rfl (kY ah ?_))));exact jg ⟨_,ls⟩
  refine xNl (jo rfl (jb 1 e3 (iX (λH=>Eo.int j3) λ_=>jB λdr cc=>(js [4,0,1,2,3] rfl (jPL cc λds=>zL 1 rfl (oE m1 (xA rfl (js [0,1,3] rfl ?_))))))));exact jg ⟨_,_,ls⟩
 refine oQ (qZ 4 rfl (js [1,0] rfl ?_));exact j2 (rt rfl) (rt rfl) ⟨_,_,lv⟩
def nZ (c:Int):Option Bool:= some ((c != 0))
theorem xDc {c} {d} (hN:HN B d) (e:xM c):∀ r,nZ c=some r->CG B d 297 #[xB c] (sB r):=by
 refine jiN func297 [(0,xB c)] hN λr=>?_;exact xN (xK rfl (qZ 3 rfl (qJ lv)))
def sF (c:rowT):Option Bool:= xH (ck ((c.numbers.length:Int) - 1)) λd=>xH (sl c.numbers 0 d) λe=>xH (vP e (λf=>nZ f)) λh=>some ((!h))
theorem xGe {e} {c} {d} (hN:HN B d) (i:Bo B d (qR 2 zU) c e):∀ r,sF e=some r->CG B d 289 #[c] (sB r):=by
 refine vW func289 [(0,c)] hN λr=>?_;obtain⟨z,A,rfl,f,C⟩:=zU.o i;refine jX e2 λ_=>xK rfl (oH e2 (jb 0 e3 (oH e2 (jb 0 e3 (jL f λ_=>jB λD j=>(fR j (jB λE p=>(jC rfl rfl f p λ_ t=>jB λx y=>(jk (λH=>bB aA (H.a t) call297 (λF r h W G f0=>xDc aA f0 r h) x y) (jA 2 rfl ?_))))))))));exact lU (qJ lv)
def eJ (c:rowT):Option Int:= xH (ck ((c.numbers.length:Int) - 1)) λd=>xH (ix c.numbers d) λe=>some e
theorem lO {e} {c} {d} (hN:HN B d) (h:Bo B d (qR 2 zU) c e):∀ r,eJ e=some r->CG B d 247 #[c] (sI r):=by
 refine vW func247 [(0,c)] hN λr=>?_;obtain⟨x,y,rfl,f,z⟩:=zU.o h;refine jX e2 λ_=>xK rfl (oH e2 (jb 0 e3 (oH e2 (jb 0 e3 (jL f λ_=>jB λA i=>(fR i (jB λC j=>(jI f j λ_ p=>aJ p λt=>xX rfl ?_))))))));exact qJ ⟨t,lv⟩
def cT (c:rowT):Option Bool:= qD (σ:=Bool) (xH (sF (rowT.mk c.numbers c.bys)) λd=>if d then xH (eJ (rowT.mk c.numbers c.bys)) λe=>some (.nx (e != 0)) else some (.nx false)) λf=>some f
theorem yX {e} {c} {d} (hN:HN B d) (i:Bo B d (qR 2 zU) c e):∀ r,cT e=some r->CG B d 288 #[c] (sB r):=by
 refine vW func288 [(0,c)] hN λr=>?_;obtain⟨A,C,rfl,f,h⟩:=zU.o i;refine jX e2 λ_=>xR rfl (vA (λj=>.st [(2,.bool j)] []) ?_ (λ_=>?_))
 ·
  refine iQ (aH 0 e3 (jB λp t=>(jk (λH=>xGe aA (zU.m (H.a f) (H.a h)) p t) (jo rfl (dZ 5 (λ_=>?_) (λ_=>?_))))))
  ·exact aH 0 e3 (jB λx y=>(jk (λH=>lO aA (zU.m (H.a f) (H.a h)) x y) λz=>oD 3 rfl (js [] rfl (jf ls))))
  exact oD 5 rfl (js [] rfl (jf ls))
 exact lY (qJ lv)
def aP (c:List rowT):Option (rowT×Bool):= xH (kO c (λf=>cT f)) λd=>if (decide (d<0)) then some ((rowT.mk ([]) ([])),false) else xH (ix c d) λe=>some ((rowT.mk e.numbers e.bys),true)
theorem jG {i} {d} {c} (hN:HN B c) (j:Bo B c (Sl 2 zU) d i):∀ r,aP i=some r->CG B c 246 #[d] (.v λe=>.v λf=>.fa (Bo B c (Sl 1 xF) e r.1.numbers) <| .fa (Bo B c (Sl 1 xF) f r.1.bys) <| .st (.tuple #[.agg #[e,f],.bool r.2]) λD=>D):=by
 refine vW func246 [(0,d)] hN λr=>?_;refine aM rfl λ_=>xK rfl (jo rfl (jB λy z=>(jk (λH=>iC aA (H.a j) call288 (λF r h W G I f0=>yX aA f0 r h) y z) λE=>xI rfl (oD 2 rfl (xW ?_ ?_)))))
 ·refine xN (qC e5 (kG e3 (xT rfl ?_)));exact mA (λH=>H.s [] rfl rfl) (cN 0 e2) (rt rfl) ⟨_,_,Bo.snil,Bo.snil,lv⟩
 refine qG (jA 2 rfl (jB λK x=>(jI j x λ_ A=>jlA A (λ_ C=>?_))));obtain⟨L,M,rfl,p,t⟩:=zU.o C;refine kG (hv:=(λH=>oc (H.a p).one (oc (H.a t).one on))) e3 (xX rfl ?_);exact mA (λH=>H.s [] rfl rfl) (cN 0 e2) (rt rfl) ⟨_,_,p,t,lv⟩
def gS (c:B3):Option B3:= xH (gO (B3.mk c.prime c.unknowns c.list)) λd=>xH (aP d.1) λf=>if f.2 then xH (nJ (0:Int) c.unknowns) λh=>some ((B3.mk c.prime c.unknowns ([(A8.mk h 1)]))) else xH (sl d.1 0 (d.2.length:Int)) λi=>qD (σ:=List A8) (oM (λA (e:rowT) j=>xH (sl e.numbers 0 c.unknowns) λp=>xH (oV p) λt=>xH (eJ (rowT.mk e.numbers e.bys)) λx=>xH (ap j ([(A8.mk t x)])) λy=>some (.go y)) i 0 []) λz=>some ((B3.mk c.prime c.unknowns z))
theorem xBa {c} {h} {i} (hN:HN B i) (T:Bo B i (qR 3 oZ) h c):∀ r,gS c=some r->CG B i 295 #[h] (.v λC=>.fa (xM r.prime) <| .fa (xM r.unknowns) <| .st (.agg #[xB r.prime,xB r.unknowns,C]) λD=>rl 2 xL 186 C r.list::D):=by
 refine vW func295 [(0,h)] hN λr=>?_;obtain⟨U,rfl,j,p,W⟩:=oZ.o T;refine jX e2 λF=>aM rfl λd=>qS (oH e2 (jb 1 e3 (oH e2 (jb 1 e3 (qC e5 (aM rfl λe=>kG e3 (qS (aH 2 e3 (jB λX Y=>?_)))))))));refine jk (λH=>tT aA (oZ.m j p (H.a W)) X Y) λ_ _=>fL 5 rfl (jo rfl (cM λ_ _ _ _ Z _ E _=>(jB λz2 c2=>(jkB (λH=>jG H.hN (H.u Z.rd) z2 c2) λv2 v3 h2 h3=>jA 3 rfl (aM rfl (λ_=>?_))))));refine kG (hv:=(λH=>oc (H.a h2).one (oc (H.a h3).one on))) e3 (xK rfl (xA rfl (xW ?_ ?_)))
 ·refine xN (oH e2 (jb 4 e3 (jB λz3 c3=>?_)));refine jRM (R:=xF) (λw=>⟨rfl,kS,rfl⟩) c3 (λ_=>?_);refine qC (hone:=(λH=>oc (H.l 0 rfl).one (oc rfl on))) e5 (jh (λH=>xL.w zD H) (tD (λH=>El.agg) λv4=>oH e2 (js [3,0,1,2,4,5] rfl (jW (hv:=(λH=>(H.l 1 rfl).one)) e3 (qS (aH 0 e3 (js [4,0,1,2,3,5] rfl ?_)))))));refine kG (hv:=(λH=>oc rfl (oc rfl (oc (H.l 2 rfl).one on)))) e3 (xUq (kY E ?_));exact j1m (λH=>H.s [3] rfl rfl) (cN 1 e2) ⟨_,j,p,lv⟩
 refine qY (jA 2 rfl (nO (λH=>H.l 1 rfl) λ_=>jB λG c4=>(kY E (jT c4 λI=>nO (λH=>H.r 0 rfl) λK=>xA rfl ?_))));refine vA (λs1=>.v λt=>.st [(2,oU d),(3,oU e)] [rl 2 xL 186 t s1,bx e [xB c.prime,xB c.unknowns,t] 150,bx d [xB 0,xB 0,aB] 150]) ?_ (λ_ t=>?_)
 ·
  refine zH (jh (λH=>H.nl 2 xL 186) (js [0,1,4,5,6] rfl ?_));refine jl (λL M=>.v λx=>.st [(38,xB (L:Int)),(1,oU F),(2,oU d),(3,oU e),(36,I),(37,xB (G.length:Int))] [rl 2 xL 186 x M,rw N0 2 zU 285 I G,bx e [xB c.prime,xB c.unknowns,x] 150,bx d [xB 0,xB 0,aB] 150,bx F [xB c.prime,xB c.unknowns,U] 150]) ⟨_,ls⟩ (λ_ M _ q1 x=>?_) (λL _ _ f y1 _=>?_)
  ·have l1:=oO q1;refine xN (xR rfl (zX l1 (xP (js [0,2,3] rfl ?_))));exact jf ⟨_,ls⟩
  refine xN (xR rfl (kA (xZ f) (oJ ?_)));have j1:=bV (Ae f) K;refine qH (js [1,0,2,3,4] rfl (cM λ_ _ _ _ g2 _ P _=>(jI g2.rd y1 λ_ h4=>jlA h4 λ_ h5=>aM rfl (λ_=>?_))));obtain⟨v8,v9,rfl,y,N⟩:=zU.o h5;refine kG (hv:=(λH=>oc (H.a y).one (oc (H.a N).one on))) e3 (aI (jB λz5 c5=>(jB λz6 c6=>(jB λz7 c7=>(jB λz8 c8=>(js [0,2,4,1,3] rfl (jh (λH=>H.mg) (jh (λH=>H.mg) (cM λ_ _ _ _ z A Q _=>?_)))))))));have O:=z.l.l.bk;refine jD (kJ 0 rfl e2 (gH 1 rfl z.l.r.bk e2 (kJ 2 rfl e2 (gH 3 rfl O e2 (kJ 4 rfl e2 (gH 5 rfl z.r.bk e2 (jvC 6 rfl y c5 λ_ h8=>rQ 8 rfl O e2 (jE 7 rfl (jk (λH=>qV aA (H.a (A h8)) z6 c6) λ_=>qT (jE 9 rfl (jk (λH=>lO aA (zU.m (H.a (A y)) (H.a (A N))) z7 c7) λS=>qT ?_)))))))))));refine jE 10 rfl ?_;refine qC (hone:=(λH=>oc (H.l 0 rfl).one (oc rfl on))) e5 (qT (jE 11 rfl (jh (λH=>xL.w S H) (tD (λH=>El.agg) λ_=>qT (jF9 12 rfl (js [1,0,2] rfl (jPL c8 λak=>aI (jF9 13 rfl (oH e2 (aI (jF9 14 rfl (kY Q ?_))))))))))));refine jh (λH=>H.um) (jh (λH=>H.um) (js [1,0,2,3,4] rfl (jW (hv:=(λH=>(H.l 3 rfl).one)) e3 (aI (gV (aK (oE (qE f K) (xA rfl (js [0,2,3,4] rfl (kY P (js [3,0,1,4,2] rfl ?_)))))))))));exact jg ⟨_,ls⟩
 refine oQ (aH 1 e3 (js [2,0,1] rfl ?_));refine kG (hv:=(λH=>oc rfl (oc rfl (oc (H.l 1 rfl).one on)))) e3 (lU ?_);exact j1m (λH=>H.s [1] rfl rfl) (cN 0 e2) ⟨_,j,p,lv⟩
def cG (N:Nat) (d:Int) (c:Rel):Option B3:= xH (ck (c.arity+1)) λf=>xH (vO d f) λt=>qD (σ:=List A8) (qU (λx h=>xH (qX N d f (x:Int)) λi=>xH (sl i 0 c.arity) λj=>xH (ix i c.arity) λp=>xH (oY c.tuples (λy=>cH y d (A8.mk j p))) λz=>if (!z) then xH (ap h ([(A8.mk j p)])) λA=>some (.go A) else some (.go h)) t.toNat 0 []) λB=>xH (gS (B3.mk d c.arity B)) λe=>some ((B3.mk e.prime e.unknowns e.list))
theorem xEn {d j} {C} {E} (hN:HN B E) (f:xM d) (A1:Bo B E (qR 2 oR) C j):∀ r,cG N d j=some r->CG B E 281 #[xB d,C] (.v λI=>.fa (xM r.prime) <| .fa (xM r.unknowns) <| .st (.agg #[xB r.prime,xB r.unknowns,I]) λD=>rl 2 xL 186 I r.list::D):=by
 refine vW func281 [(0,xB d),(1,C)] hN λr=>?_;refine jX e2 (λM=>?_);obtain⟨v2,rfl,i1,h1⟩:=oR.o A1;refine jX e2 λb2=>aM rfl λi=>qS (jb 2 e3 (oH e2 (jb 1 e3 (qC e5 (aM rfl λp=>kG e3 (cY (jb 3 e3 (oH e2 (jb 2 e3 (jB λz1 t=>(kE t ?_)))))))))));refine jB λO c2=>(jk (λH=>kC aA f (zI t) O c2) λK=>xA rfl (js [2,0,1,3] rfl (cM λw1 X1 P _ g1 e1 Y _=>?_)));have x:=g1.bk;refine vA (λs1=>.v λQ=>.st [(4,oU i),(5,oU p)] [rw P 2 xL 186 Q s1,bx p [xB d,xB j.arity,Q] 150,bx i [xB 0,xB 0,aB] 150]) ?_ (λ_ _=>?_)
 ·
  refine zH (jh (λH=>H.nl 2 xL 186) (jh (λH=>H.lw) (jh (λH=>H.wk) ?_)));refine jc (λR G=>.v λy=>.st [(18,xB (R:Int)),(2,oU M),(3,oU b2),(4,oU i),(5,oU p),(17,xB O)] [rw P 2 xL 186 y G,bx p [xB d,xB j.arity,y] 150,bx i [xB 0,xB 0,aB] 150,bx M [xB d] 2]) ⟨_,ls⟩ (λ_ G _ e y=>?_) (λ_ R G e y=>?_)
  ·have l2:=vJ e;refine xN (xR rfl (zX l2 (xP (js [0,1,2] rfl ?_))));exact jf ⟨_,ls⟩
  refine xN (xR rfl (kA (qW e) (oJ ?_)));have S:=vZ e K;refine qH (kW 2 rfl (jb 3 e3 (oH e2 (jbK x e2 (kE t (jo rfl (jB λz3 c3=>(jk (λH=>iM aA f (zI t) (dL e K) z3 c3) λ_=>xR rfl (jB λz4 c4=>(jB λz5 c5=>(cM λ_ _ N3 _ g2 z L Z=>?_)))))))))));have T:=g2.ld;refine jD (zG [0] rfl (kJ 1 rfl e2 (gH 2 rfl (x.lf z) e2 (jvC 3 rfl T c4 λv5 A=>zG [4] rfl (kJ 5 rfl e2 (gH 6 rfl (x.lf z) e2 (nM 7 rfl T c5 λ_ h4=>aY 8 rfl h4 (λU=>?_))))))));refine jvv 9 rfl (λF H w l=>xPr underlying186 zeroValue186 (λw=>by simp [sizeOf2,sizeOf53];rfl) F rfl rfl rfl rfl (oc (H.a A).one (oc rfl on)) rfl rfl) (jE 10 rfl (aM rfl λ_=>qT (jE 11 rfl ?_)));refine kG (hv:=(λH=>oc (H.a A).one (oc rfl on))) e3 (qT (gV (oQ (oH e2 (jbK (x.lf z) e2 (cU e2 (jB λz6 c6=>(jk (λH=>zY aA (H.a (z (e1 h1))) call293 (λa0 r h W X u0 f0=>xBh aA f0 ((c1I (H.g 4 rfl).bk f).w X) ((xL.b (H.g 0 rfl).bk (H.a A) U).w X) r h) z6 c6) (xA rfl (xW ?_ ?_))))))))))
  ·refine iQ (oH e2 (jb 2 e3 (aH 0 e3 ?_)));refine jR1 (N1:=N3) n1 (λH=>Eo.agg (xL.m (H.u A) U)) λ_=>jB λz7 c7=>(js [2,0,1,3,4,5] rfl (jh (λH=>H.up (λc h=>(L.2.2 c h))) (jP c7 λv6=>oH e2 (js [2,0,1,3,4] rfl (jW (hv:=(λH=>(H.r 1 rfl).one)) e3 (dI (oE S (xA rfl (js [0,1,3,4] rfl (js [1,0,2,3] rfl ?_))))))))));refine jh (λH=>Z Ab.rw H (Ns.all ⟨n0,⟨n0,⟨n0,trivial⟩⟩⟩)) ?_;exact jg ⟨_,ls⟩
  refine qM (oE S (xA rfl (js [1,2,3,4] rfl (kY L (js [1,2,3,4] rfl ?_)))));exact jg ⟨_,ls⟩
 refine oQ (aH 1 e3 (jB λz8 c8=>?_));refine jk (λH=>xBa aA (oZ.m f i1 (H.r 0 rfl)) z8 c8) λv7 i3 i4=>js [3,0,1,2] rfl ?_;refine kG (hv:=(λH=>oc rfl (oc rfl (oc (H.l 1 rfl).one on)))) e3 (lU (js [0,1,3] rfl (kY Y ?_)));exact j1m (λH=>H.s [2] rfl rfl) (cN 1 e2) ⟨_,i3,i4,lv⟩
def mH (N:Nat) (c:A6) (d:A7):Option (B3×Int):= qD (σ:=Bool) (xH (gQ c.size) λt=>if (!t) then some (.nx true) else xH (zB d.cons (λx=>mM N x (A6.mk c.size c.rels))) λp=>some (.nx p)) λy=>if y then some ((B3.mk 0 0 ([])),4) else qD (σ:=List A8) (oM (λO (e:Con) z=>xH (ix c.rels e.rel) λA=>xH (cG N c.size A) λB=>qD (σ:=List A8) (oM (λP (f:A8) C=>xH (nJ (0:Int) d.vars) λD=>qD (σ:=List Int) (oM (λE (h:Int) i=>xH (ix i h) λF=>xH (ix f.left (E:Int)) λG=>xH (ck (F+G)) λH=>xH (rm H c.size) λI=>some (.go (i.set (h).toNat I))) e.scope 0 D) λK=>xH (ap C ([(A8.mk K f.right)])) λL=>some (.go L)) B.list 0 z) λM=>some (.go M)) d.cons 0 []) λj=>if (decide (24<(j.length:Int))) then some ((B3.mk 0 0 ([])),3) else some ((B3.mk c.size d.vars j),0)
theorem xJa {i c} {v0 v1} {M} (hN:HN B M) (A0:Bo B M (qR 2 xC) v0 i) (A1:Bo B M (qR 2 xJ) v1 c):∀ r,mH N i c=some r->CG B M 243 #[v0,v1] (.v λac=>.fa (xM r.1.prime) <| .fa (xM r.1.unknowns) <| .fa (xM r.2) <| .st (.tuple #[.agg #[xB r.1.prime,xB r.1.unknowns,ac],xB r.2]) λD=>rl 2 xL 186 ac r.1.list::D):=by
 refine vW func243 [(0,v0),(1,v1)] hN λr=>?_;obtain⟨v2,rfl,I,h1⟩:=xC.o A0;refine jX e2 (λx=>?_);obtain⟨t,rfl,i2,h2⟩:=xJ.o A1;refine jX e2 λj=>aM rfl λd=>jo rfl (gL ?_);refine vA (λs1=>.st [(2,oU x),(3,oU j),(4,oU d),(23,.bool s1)] [bx d [xB 0,xB 0,aB] 150,bx j [xB c.vars,t] 77,bx x [xB i.size,v2] 34]) ?_ (λ_=>?_)
 ·
  refine iQ (oH e2 (jb 2 e3 (jB λz1 c1=>(jk (λH=>tV aA I z1 c1) (jA 2 rfl (dZ 18 (λ_=>?_) (λ_=>?_)))))))
  ·exact oD 5 rfl (jf ls)
  exact oH e2 (jb 1 e3 (cU e2 (jB λz32 c2=>(jk (λH=>bZ aA (H.a h2) call280 (λa0 r h W l1 u0 f0=>xFq aA f0 ((xC.b (H.g 2 rfl).bk I (H.a h1)).w l1) r h) z32 c2) (xA rfl (jf ls))))))
 refine dA (xW ?_ ?_)
 ·refine xN (qC e5 (kG e3 (xT rfl ?_)));exact mA (λH=>(H.nl 2 xL 186).s [0] rfl rfl) (cN 0 e2) (rt rfl) ⟨_,xU,xU,tY,lv⟩
 refine qG (oH e2 (jb 2 e3 (oH e2 (jb 1 e3 (qC e5 (aM rfl λe=>kG e3 (cY (oH e2 (jb 2 e3 (jL h2 λi3=>xA rfl ?_))))))))));refine vA (λs2=>.v λv3=>.st [(4,oU d),(6,oU e)] [rl 2 xL 186 v3 s2,bx e [xB i.size,xB c.vars,v3] 150,bx d [xB 0,xB 0,aB] 150]) ?_ (λ_ v3=>?_)
 ·
  refine zH (jh (λH=>H.nl 2 xL 186) ?_);refine jl (λy s3=>.v λO=>.st [(33,xB (y:Int)),(2,oU x),(3,oU j),(4,oU d),(6,oU e),(31,t),(32,xB (c.cons.length:Int))] [rl 2 xL 186 O s3,bx e [xB i.size,xB c.vars,O] 150,bx d [xB 0,xB 0,aB] 150,bx j [xB c.vars,t] 77,bx x [xB i.size,v2] 34]) ⟨_,ls⟩ (λ_ s3 _ q1 O=>?_) (λy x2 s3 Q y1 O=>?_)
  ·have l2:=oO q1;refine xN (xR rfl (zX l2 (xP (js [0,1,2] rfl ?_))));exact jf ⟨_,ls⟩
  refine xN (xR rfl (kA (xZ Q) (oJ ?_)));have j1:=bV (Ae Q) i3;refine qH (jI h2 y1 λ_ h3=>jlA h3 λ_ h4=>aM rfl (λK=>?_));obtain⟨v5,rfl,i4,h5⟩:=vH.o h4;refine kG (hv:=(λH=>oc rfl (oc (H.a h5).one on))) e3 (xAo (jB λz2 c3=>(jB λz c4=>(js [0,5,1,2,3,4] rfl (jh (λH=>H.mg) (cM λw1 X1 N1 ad g1 e1 S _=>?_))))));have K1:=g1.l.bk;have K2:=g1.r.bk;refine jD (kJ 0 rfl e2 (gH 1 rfl K2 e2 (kJ 2 rfl e2 (gH 3 rfl K2 e2 (kJ 4 rfl e2 (gH 5 rfl K1 e2 (nM 6 rfl h1 c3 λ_ h6=>xFu (s:=λH w l=>(ad.trans (Sm.mono (H.v w l) S.2.2))) 7 rfl h6 λ_ h7=>zG [11] rfl (jE 8 rfl (jk (λH=>xEn aA I (H.a (e1 h7)) z c4) λE _ _=>qT (jvv 9 rfl (λF H w l=>xTb F rfl rfl) (jE 10 rfl ?_)))))))))));refine nO (λH=>H.l 0 rfl) λi5=>qT (gV (dA ?_));refine vA (λs4=>.v λv7=>.st [(2,oU x),(3,oU j),(4,oU d),(6,oU e),(31,t),(32,xB (c.cons.length:Int)),(33,xB (y:Int))] [rl 2 xL 186 v7 s4,bx e [xB i.size,xB c.vars,v7] 150,bx d [xB 0,xB 0,aB] 150,bx j [xB c.vars,t] 77]) ?_ (λs4 v7=>?_)
  ·
   refine zH ?_;refine jl (λG A=>.v λp=>.st [(48,xB (G:Int)),(2,oU x),(3,oU j),(4,oU d),(6,oU e),(8,oU K),(31,t),(32,xB (c.cons.length:Int)),(33,xB (y:Int)),(46,E),(47,xB (z.list.length:Int))] [rl 2 xL 186 E z.list,rl 2 xL 186 p A,bx e [xB i.size,xB c.vars,p] 150,bx d [xB 0,xB 0,aB] 150,bx j [xB c.vars,t] 77]) ⟨_,ls⟩ (λ_ A _ q2 p=>?_) (λG P A T y2 p=>?_)
   ·have l3:=oO q2;refine xN (xR rfl (zX l3 (xP (js [1,2,3,4] rfl ?_))));exact jf ⟨_,ls⟩
   refine xN (xR rfl (kA (xZ T) (oJ ?_)));have j2:=bV (Ae T) i5;refine qH (cM λ_ _ _ ba g2 e4 ae _=>(jI g2.ld y2 λ_ h8=>jlA h8 λ_ h9=>aM rfl (λb6=>?_)));obtain⟨v9,rfl,af,i6⟩:=xL.o h9;refine kG (hv:=(λH=>oc (H.a af).one (oc rfl on))) e3 (xAo (jB λz4 c5=>(js [0,4,1,2,3] rfl (jh (λH=>H.mg) (cM λw2 X2 N2 ag g3 e6 U _=>?_)))));have K3:=g3.l.bk;refine jD ?_;refine jdp (f:=1) (ls:=(bi 8 127)) (.n λC=>.v λX=>.st [(2,oU x),(3,oU j),(4,oU d),(6,oU e),(8,oU K),(10,oU b6),(11,oU C),(31,t),(32,xB (c.cons.length:Int)),(33,xB (y:Int)),(46,E),(47,xB (z.list.length:Int)),(48,xB (G:Int)),(57,(.agg #[X,xB P.right]))] [bx C [aB,xB 0] 186,rl 1 xF 2 X z4,rl 2 xL 186 p A,bx e [xB i.size,xB c.vars,p] 150,bx d [xB 0,xB 0,aB] 150]) (λC X=>?_) (λH1=>?_)
   ·
    refine jE 7 rfl ?_;refine kG (hv:=(λH=>oc (H.l 1 rfl).one (oc rfl on))) e3 (qT (gV (bX (oH e2 (jbK ((K1.lf e4).lf e6) e2 (jL h5 λi7=>xA rfl ?_))))));refine vA (λs6=>.v λah=>.st [(2,oU x),(3,oU j),(4,oU d),(6,oU e),(8,oU K),(11,oU C),(31,t),(32,xB (c.cons.length:Int)),(33,xB (y:Int)),(46,E),(47,xB (z.list.length:Int)),(48,xB (G:Int))] [bx C [ah,xB P.right] 186,rl 1 xF 2 ah s6,rl 2 xL 186 p A,bx e [xB i.size,xB c.vars,p] 150,bx d [xB 0,xB 0,aB] 150]) ?_ (λs6 _=>?_)
    ·
     refine zH ?_;refine jl (λk3 s7=>.v λL=>.st [(61,xB (k3:Int)),(2,oU x),(3,oU j),(4,oU d),(6,oU e),(8,oU K),(10,oU b6),(11,oU C),(31,t),(32,xB (c.cons.length:Int)),(33,xB (y:Int)),(46,E),(47,xB (z.list.length:Int)),(48,xB (G:Int)),(59,v5),(60,xB (x2.scope.length:Int))] [bx C [L,xB P.right] 186,rl 1 xF 2 L s7,rl 2 xL 186 p A,bx e [xB i.size,xB c.vars,p] 150,bx d [xB 0,xB 0,aB] 150]) ⟨_,ls⟩ (λ_ s7 _ q3 L=>?_) (λk3 x4 s7 Y y3 L=>?_)
     ·have l4:=oO q3;refine xN (xR rfl (zX l4 (xP ?_)));exact jf ⟨_,ls⟩
     refine xN (xR rfl (kA (xZ Y) (oJ ?_)));have j3:=bV (Ae Y) i7;refine qH (jo rfl (jI h5 y3 λ_ bb=>aJ (s:=λH=>(ad.trans (Sm.mono (ba.trans (Sm.mono (ag.trans (Sm.mono H.sm U.2.2)) ae.2.2)) S.2.2))) bb λ_=>oD 2 rfl (jB λz5 c6=>(jB λz6 c7=>(jB λz7 c8=>(jB λz8 c9=>(jh (λH=>H.mg) (cM λ_ _ _ bc g4 e7 ai _=>?_))))))));have K4:=g4.l.bk;refine jD (kJ 0 rfl e2 (gH 1 rfl K4 e2 (zG [2] rfl (kJ 3 rfl e2 (gH 4 rfl K4 e2 (zG [5] rfl (nM 6 rfl g4.r.ld c6 λ_ bd=>aY 7 rfl bd λ_=>kJ 8 rfl e2 (gH 9 rfl (K3.lf e7) e2 (zG [10] rfl (nM 11 rfl af c7 λ_ be=>aY (s:=λH w l=>(ag.trans (Sm.mono (bc.trans (Sm.mono (H.v w l) ai.2.2)) U.2.2))) 12 rfl be λ_=>jvz 13 rfl (λF H w l=>wF F rfl rfl c8) ?_))))))))));refine kJ 14 rfl e2 (gH 15 rfl (((K2.lf e4).lf e6).lf e7) e2 (jvz 16 rfl (λF H w l=>xEv F rfl rfl c9) (jF9 17 rfl (kY ai (jh (λH=>H.um) (jRl 1 c6 λ_ bf=>aI (jF9 18 rfl (js [1,0,2,3,4] rfl (jh (λH=>H.lw) (jS bf (cI c6) (λH=>Eo.int (xHh c9 (zI c8) I)) rfl (jh (λH=>H.tl) (aI (gV ?_)))))))))))));refine aK (oE (qE Y i7) (xA rfl (js [1,0,2,3,4] rfl ?_)));exact jg ⟨_,ls⟩
    refine xNl (oH e2 (jb 3 e3 (aH 0 e3 (js [1,0,2,3,4] rfl (jh (λH=>xL.w i6 H) (tD (λH=>El.agg) λ_=>jB λz9 bg=>(js [2,0,1,3,4] rfl (jPL bg λcn=>oH e2 (js [2,0,1,3] rfl (jW (hv:=(λH=>(H.l 1 rfl).one)) e3 (dI (oE (qE T i5) ?_))))))))))));refine xA rfl (js [0,1,3] rfl (kY U (jh (λH=>H.um) (kY ae (js [0,4,3,5,2] rfl ?_)))));exact jg ⟨_,ls⟩
   refine jdp (f:=2) (ls:=(bi 8 95)) (.n λb8=>.v λZ=>.st [(2,oU x),(3,oU j),(4,oU d),(6,oU e),(8,oU K),(10,oU b6),(11,oU b8),(31,t),(32,xB (c.cons.length:Int)),(33,xB (y:Int)),(46,E),(47,xB (z.list.length:Int)),(48,xB (G:Int)),(54,Z),(56,xB P.right)] [bx b8 [aB,xB 0] 186,rl 1 xF 2 Z z4,rl 2 xL 186 p A,bx e [xB i.size,xB c.vars,p] 150,bx d [xB 0,xB 0,aB] 150]) (λb8 Z=>?_) (λH2=>?_)
   ·refine jE 5 rfl ?_;refine qC (hone:=(λH=>oc (H.l 1 rfl).one (oc rfl on))) e5 (qT ?_);exact H1 ⟨_,_,ls⟩
   refine kJ 0 rfl e2 (gH 1 rfl g3.r.bk e2 (kJ 3 rfl e2 (gH 4 rfl K3 e2 (dV (λH=>H) 2 6 rfl rfl ?_ ?_))))
   ·
    refine jRM (R:=xF) (λw=>⟨rfl,kS,rfl⟩) c5 λco=>qT (dV (λH=>H) 5 6 rfl rfl ?_ ?_)
    ·refine qC (hone:=(λH=>oc (H.l 0 rfl).one (oc rfl on))) e5 (qT (jE 6 rfl (aM rfl λb9=>qT ?_)));exact H1 ⟨_,_,ls⟩
    refine aM rfl λcp=>qT ?_;exact H2 ⟨_,_,ls⟩
   refine aM rfl λcq=>qT (jE 2 rfl ?_);refine jRM (R:=xF) (λw=>⟨rfl,kS,rfl⟩) c5 λcr=>qT (js [1,0,2,3,4] rfl ?_);exact H2 ⟨_,_,ls⟩
  refine aK (oE (qE Q i3) (xA rfl (kY S (jh (λH=>H.um) (js [2,3,4,5,1] rfl ?_)))));exact jg ⟨_,ls⟩
 refine bX (oH e2 (jb 1 e3 (nO (λH=>H.l 0 rfl) λ_=>xA rfl (xW ?_ ?_))))
 ·refine xN (qC e5 (js [2,0,1] rfl (kG e3 (xT rfl ?_))));exact mA (λH=>(H.nl 2 xL 186).s [0] rfl rfl) (cN 0 e2) (rt rfl) ⟨_,xU,xU,iV,lv⟩
 refine qG (aH 1 e3 (js [2,0,1] rfl ?_));refine kG (hv:=(λH=>oc rfl (oc rfl (oc (H.l 1 rfl).one on)))) e3 (xX rfl ?_);exact mA (λH=>H.s [1] rfl rfl) (cN 0 e2) (rt rfl) ⟨_,I,i2,xU,lv⟩
def wH (N:Nat) (c:A6) (d:A7):Option (B3×Int):= xH (aN (A6.mk c.size c.rels) (A7.mk d.vars d.cons)) λf=>if (!f) then some ((B3.mk 0 0 ([])),1) else xH (mH N (A6.mk c.size c.rels) (A7.mk d.vars d.cons)) λe=>some ((B3.mk e.1.prime e.1.unknowns e.1.list),e.2)
theorem xIq {h i} {d e} {c} (hN:HN B c) (y:Bo B c (qR 2 xC) d h) (z:Bo B c (qR 2 xJ) e i):∀ r,wH N h i=some r->CG B c 174 #[d,e] (.v λf=>.fa (xM r.1.prime) <| .fa (xM r.1.unknowns) <| .fa (xM r.2) <| .st (.tuple #[.agg #[xB r.1.prime,xB r.1.unknowns,f],xB r.2]) λD=>rl 2 xL 186 f r.1.list::D):=by
 refine vW func174 [(0,d),(1,e)] hN λr=>?_;obtain⟨M,rfl,j,p⟩:=xC.o y;refine jX e2 (λ_=>?_);obtain⟨L,rfl,t,x⟩:=xJ.o z;refine jX e2 λ_=>aM rfl λ_=>xI rfl (aH 2 e3 (aH 1 e3 (jB λA C=>?_)));refine jk (λH=>eY aA (xC.m j (H.a p)) (xJ.m t (H.a x)) A C) (xA rfl (xW ?_ ?_))
 ·refine xN (qC e5 (kG e3 (xT rfl ?_)));exact mA (λH=>(H.nl 2 xL 186).s [0] rfl rfl) (cN 0 e2) (rt rfl) ⟨_,xU,xU,zD,lv⟩
 refine qG (aH 2 e3 (aH 1 e3 (jB λE F=>?_)));refine jk (λH=>xJa aA (xC.m j (H.a p)) (xJ.m t (H.a x)) E F) λO G I K=>jA 2 rfl (js [1,0,2,3] rfl ?_);refine kG (hv:=(λH=>oc rfl (oc rfl (oc (H.l 1 rfl).one on)))) e3 (xX rfl ?_);exact mA (λH=>H.s [1] rfl rfl) (cN 0 e2) (rt rfl) ⟨_,G,I,K,lv⟩
def mR (c e:Int) (d:A8):Option Bool:= qD (σ:=Bool) (xH (bA c d.left e) λf=>if f then xH (fD c d.right) λh=>some (.nx h) else some (.nx false)) λi=>some i
theorem xGj {c d i} {e} {f} (hN:HN B f) (h:xM c) (j:xM d) (p:Bo B f (qR 2 xL) e i):∀ r,mR c d i=some r->CG B f 284 #[xB c,xB d,e] (sB r):=by
 refine vW func284 [(0,xB c),(1,xB d),(2,e)] hN λr=>?_;obtain⟨E,rfl,t,x⟩:=xL.o p;refine jX e2 λ_=>xR rfl (vA (λy=>.st [(6,.bool y)] []) ?_ (λ_=>?_))
 ·
  refine iQ (jo rfl (oH e2 (jb 0 e3 (jo rfl (jB λz A=>(jk (λH=>lR aA h (H.a t) j z A) (jo rfl (dZ 12 (λ_=>?_) (λ_=>?_)))))))))
  ·exact jo rfl (oH e2 (jb 0 e3 (jB λC D=>(jk (λH=>tK aA h x C D) (oD 2 rfl (js [] rfl (jf ls)))))))
  exact oD 6 rfl (js [] rfl (jf ls))
 exact lY (qJ lv)
def mT (c:A8) (d:B3):Option Bool:= xH (mR d.prime d.unknowns (A8.mk c.left c.right)) λe=>some ((!e))
theorem xCc {f h} {d e} {c} (hN:HN B c) (p:Bo B c (qR 2 xL) d f) (i:Bo B c (Pt 3 oZ) e h):∀ r,mT f h=some r->CG B c 283 #[d,e] (sB r):=by
 refine vW func283 [(0,d),(1,e)] hN λr=>?_;obtain⟨E,rfl,t,x⟩:=xL.o p;refine jX e2 λ_=>xK rfl (kZ i oZ.f0 λ_ j=>aJ j λy=>kZ i oZ.f1 λ_ z=>aJ z λA=>aH 0 e3 (jB λC D=>?_));exact jk (λH=>xGj aA y A (xL.m (H.a t) x) C D) (qZ 2 rfl (qJ lv))
def aV (c:List A8) (d:A8->Option Bool):Option Int:= qD (σ:=Unit) (oM (λe (f:A8) s=>match s with | _=>xH (d f) λh=>if h then some (.ret ((e:Int))) else some (.go ())) c 0 ()) λ_=>some ((-1))
theorem jH {i j} {f c e} {d} (hN:HN B d) (p:Bo B d (Sl 2 xL) f i) (A:∀ args w,(callFunc c args).run prog w= .ok (.enter c args) w) (C:∀ (t:A8) (r:Bool),j t=some r->∀ W,Below d.heap.size d W->∀ (x:Vl),Bo (All W) W (qR 2 xL) x t->Calls prog c ([x]++e:List Vl).toArray W (Gt (All W) W [] (sB r))):∀ r,aV i j=some r->CG B d 296 #[f,.func (.func c) #[] e.toArray] (sI r):=by
 refine vW func296 [(0,f),(1,.func (.func c) #[] e.toArray)] hN λr=>?_;refine xI rfl (jo rfl (jL p λy=>xA rfl (vA (λ_=>.st [] []) ?_ (λ_=>?_))))
 ·
  refine zH (jl (λz _=>.st [(8,xB (z:Int)),(0,f),(1,.func (.func c) #[] e.toArray),(7,xB (i.length:Int))] []) ls (λ_ _ _ E=>?_) (λz _ _ h F=>?_))
  ·have G:=oO E;exact xN (xR rfl (zX G (xP (jf ls))))
  refine xN (xR rfl (kA (xZ h) (oJ (qH (kW 2 rfl (jA 3 rfl (jI p F λ_ D=>jlA D λ_ I=>jB λK L=>?_)))))));refine jkV A e2 (λH=>C _ K L _ H.bl _ (H.a I)) (aI (xW ?_ ?_))
  ·refine xN (qA 2 rfl (dB (zC (cV (eT ?_)))));exact qJ ⟨(bV (Ae h) y),lv⟩
  exact qM (oE (qE h y) (xA rfl (jg ls)))
 refine oQ (xX rfl ?_);exact qJ ⟨kV,lv⟩
def zW (c:List A8) (d:A8->Option Bool):Option Bool:= xH (aV c d) λe=>some ((decide (0<=e)))
theorem gY {j p} {i c f} {d} (hN:HN B d) (z:Bo B d (Sl 2 xL) i j) (x:∀ args w,(callFunc c args).run prog w= .ok (.enter c args) w) (y:∀ (e:A8) (r:Bool),p e=some r->∀ W,Below d.heap.size d W->∀ (t:Vl),Bo (All W) W (qR 2 xL) t e->Calls prog c ([t]++f:List Vl).toArray W (Gt (All W) W [] (sB r))):∀ r,zW j p=some r->CG B d 282 #[i,.func (.func c) #[] f.toArray] (sB r):=by
 refine jiN func282 [(0,i),(1,.func (.func c) #[] f.toArray)] hN λr=>?_;exact xN (xK rfl (jA 2 rfl (jB λA C=>(jk (λH=>jH aA (H.a z) x (λe r h W D=>y e r h W (H.bl.trans (D.mono H.fr.size))) A C) λE=>qZ 2 rfl (qJ lv)))))
def fW (c:B3):Option Bool:= qD (σ:=Bool) (xH (gQ c.prime) λd=>if d then xH (bI c.unknowns 1 12) λe=>if e then if (decide ((c.list.length:Int)<=24)) then xH (zW c.list (λf=>mT f (B3.mk c.prime c.unknowns c.list))) λh=>some (.nx (!h)) else some (.nx false) else some (.nx false) else some (.nx false)) λi=>some i
theorem uL {f} {c} {d} (hN:HN B d) (p:Bo B d (qR 3 oZ) c f):∀ r,fW f=some r->CG B d 244 #[c] (sB r):=by
 refine vW func244 [(0,c)] hN λr=>?_;obtain⟨F,rfl,i,j,e⟩:=oZ.o p;refine jX e2 λ_=>xR rfl (vA (λt=>.st [(2,.bool t)] []) ?_ (λ_=>?_))
 ·
  refine iQ (oH e2 (jb 0 e3 (jB λx y=>(jk (λH=>tV aA i x y) (jo rfl (dZ 6 (λ_=>?_) (λ_=>?_)))))))
  ·
   refine oH e2 (jb 0 e3 (jB λz A=>(jk (λH=>bN aA j zD xZf z A) (jA 2 rfl (dZ 11 (λ_=>?_) (λ_=>?_))))))
   ·
    refine oH e2 (jb 0 e3 (jL e λ_=>jA 3 rfl (dZ 17 (λ_=>?_) (λ_=>?_))))
    ·exact oH e2 (jb 0 e3 (cU e2 (jB λC D=>(jk (λH=>gY aA (H.a e) call283 (λG r h W E I f0=>xCc aA f0 ((oZ.b (H.g 0 rfl).bk i j (H.a e)).w E) r h) C D) (oD 3 rfl (js [] rfl (jf ls)))))))
    exact oD 7 rfl (js [] rfl (jf ls))
   exact oD 13 rfl (js [] rfl (jf ls))
  exact oD 18 rfl (js [] rfl (jf ls))
 exact lY (qJ lv)
def gC (c:B3):Option ((List Int)×Int):= xH (fW (B3.mk c.prime c.unknowns c.list)) λh=>if (!h) then some ([],1) else xH (gO (B3.mk c.prime c.unknowns c.list)) λd=>xH (aP d.1) λi=>if i.2 then some ([],6) else xH (nJ (0:Int) c.unknowns) λj=>qD (σ:=List Int) (oM (λp (e:Int) f=>xH (ix d.1 (p:Int)) λt=>xH (eJ t) λx=>xH (ix f e) λz=>some (.go (f.set (e).toNat x))) d.2 0 j) λy=>some (y,0)
theorem xEg {y} {e} {f} (hN:HN B f) (P:Bo B f (qR 3 oZ) e y):∀ r,gC y=some r->CG B f 175 #[e] (.v λp=>.fa (xM r.2) <| .st (.tuple #[p,xB r.2]) λD=>rl 1 xF 2 p r.1::D):=by
 refine vW func175 [(0,e)] hN λr=>?_;obtain⟨v1,rfl,z,A,C⟩:=oZ.o P;refine jX e2 λ_=>fL 2 rfl (aH 0 e3 (jB λL Q=>?_));refine jk (λH=>uL aA (oZ.m z A (H.a C)) L Q) (xA rfl (xW ?_ ?_))
 ·refine xN (pC 2 rfl (jh (λH=>H.nl 1 xF 2) (js [0] rfl ?_)));exact j2 (rt rfl) (rt rfl) ⟨_,zD,lv⟩
 refine qG (aH 0 e3 (jB λh S=>?_));refine jk (λH=>tT aA (oZ.m z A (H.a C)) h S) λT E=>fL 5 rfl (jo rfl (cM λw1 X1 N1 _ U _ t _=>?_));have F:=U.rd;refine jB λW X=>(jkB (λH=>jG H.hN (H.u F) W X) λv4 v5 Y Z=>jA 3 rfl (aM rfl (λ_=>?_)));refine kG (hv:=(λH=>oc (H.a Y).one (oc (H.a Z).one on))) e3 (xK rfl (xA rfl (xW ?_ ?_)))
 ·refine xN (pC 2 rfl (kY t (jh (λH=>H.nl 1 xF 2) (js [0] rfl ?_))));exact j2 (rt rfl) (rt rfl) ⟨_,sM,lv⟩
 refine qG (oH e2 (jb 2 e3 (jB λz3 c4=>?_)));refine jRM (R:=xF) (λw=>⟨rfl,kS,rfl⟩) c4 λv6=>xI rfl (jo rfl (nO (λH=>H.l 2 rfl) λG=>xA rfl (vA (λs1=>.v λi=>.st [(8,i)] [rl 1 xF 2 i s1]) ?_ (λ_ i=>?_))))
 ·
  refine zH (js [0,2] rfl ?_);refine jl (λI j=>.v λc=>.st [(30,xB (I:Int)),(4,T),(8,c),(28,E),(29,xB (h.2.length:Int))] [rl 1 xF 2 c j,rl 1 xF 2 E h.2]) ⟨_,ls⟩ (λ_ j _ q1 c=>?_) (λI x1 j d y1 c=>?_)
  ·have l1:=oO q1;refine xN (xR rfl (zX l1 (xP (js [0] rfl ?_))));exact jf ⟨_,ls⟩
  refine xN (xR rfl (kA (xZ d) (oJ ?_)));have j1:=bV (Ae d) G;refine qH (jo rfl (js [1,0] rfl (cM λ_ _ _ M g2 e1 x _=>(jI g2.ld y1 λ_ h5=>aJ h5 λ_=>jA 2 rfl (eR (jA 4 rfl (jB λz4 c5=>(jI F c5 λ_ h6=>jlA (s:=λH=>(M.trans (Sm.mono H.sm x.2.2))) h6 λ_ h7=>jB λz5 c6=>(jk (λH=>lO aA (H.a (e1 h7)) z5 c6) λN=>jB λz6 K=>?_)))))))));refine jRl 0 K λ_ O=>jh (λH=>H.lw) (jS O (cI K) (λH=>Eo.int N) rfl (jh (λH=>H.tl) (dI (oE (qE d G) (xA rfl (kY x (js [1,0] rfl ?_)))))));exact jg ⟨_,ls⟩
 refine oQ (qZ 3 rfl (kY t (js [1] rfl ?_)));exact j2 (rt rfl) (rt rfl) ⟨_,xU,lv⟩
def iR (c:B3):Option ((List Int)×Int):= xH (fW (B3.mk c.prime c.unknowns c.list)) λe=>if (!e) then some ([],1) else xH (gO (B3.mk c.prime c.unknowns c.list)) λf=>xH (aP f.1) λd=>if (!d.2) then some ([],6) else xH (eJ (rowT.mk d.1.numbers d.1.bys)) λh=>xH (pO h) λi=>xH (lA (rowT.mk d.1.numbers d.1.bys) c.prime i) λj=>some (j.bys,0)
theorem xDg {t} {d} {e} (hN:HN B e) (K:Bo B e (qR 3 oZ) d t):∀ r,iR t=some r->CG B e 176 #[d] (.v λj=>.fa (xM r.2) <| .st (.tuple #[j,xB r.2]) λD=>rl 1 xF 2 j r.1::D):=by
 refine vW func176 [(0,d)] hN λr=>?_;obtain⟨Y,rfl,f,x,y⟩:=oZ.o K;refine jX e2 λ_=>fL 2 rfl (aH 0 e3 (jB λC L=>?_));refine jk (λH=>uL aA (oZ.m f x (H.a y)) C L) (xA rfl (xW ?_ ?_))
 ·refine xN (pC 2 rfl (jh (λH=>H.nl 1 xF 2) (js [0] rfl ?_)));exact j2 (rt rfl) (rt rfl) ⟨_,zD,lv⟩
 refine qG (aH 0 e3 (jB λM N=>?_));refine jk (λH=>tT aA (oZ.m f x (H.a y)) M N) λ_ _=>kW 5 rfl (jo rfl (cM λ_ _ _ _ O _ p _=>(jB λP Q=>(jkB (λH=>jG H.hN (H.u O.rd) P Q) λZ v3 h i=>jA 3 rfl (aM rfl (λ_=>?_))))));refine kG (hv:=(λH=>oc (H.a h).one (oc (H.a i).one on))) e3 (xI rfl (oD 2 rfl (xW ?_ ?_)))
 ·refine xN (pC 2 rfl (kY p (jh (λH=>H.nl 1 xF 2) (js [0] rfl ?_))));exact j2 (rt rfl) (rt rfl) ⟨_,sM,lv⟩
 refine oJ (jB λR S=>(jB λT U=>(jB λW X=>(js [0,2,1] rfl (jh (λH=>H.mg) (cM λ_ _ _ _ z c E _=>?_))))));have A:=z.l.bk;refine jD (rQ 0 rfl A e2 (kJ 1 rfl e2 (gH 2 rfl z.r.bk e2 (rQ 3 rfl A e2 (jE 4 rfl (jk (λH=>lO aA (zU.m (H.a (c h)) (H.a (c i))) R S) λG=>qT (jE 5 rfl (jk (λH=>xBz aA G T U) λI=>qT (jE 6 rfl (jk (λH=>yJ aA (zU.m (H.a (c h)) (H.a (c i))) f I W X) λ_ v4=>qT (jvv 7 rfl (λF H w l=>xTb F rfl rfl) ?_)))))))))));refine zG [8,9] rfl (gV (lY (kY E (jh (λH=>H.um) (kY p (js [4] rfl ?_))))));exact j2 (rt rfl) (rt rfl) ⟨_,xU,lv⟩
def eP (N:Nat) (e:A6) (f:A7):Option (A9×Int):= xH (wH N (A6.mk e.size e.rels) (A7.mk f.vars f.cons)) λc=>if (c.2 != 0) then some ((A9.mk 0 ([]) ([]) ([]) ([])),c.2) else xH (gC (B3.mk c.1.prime c.1.unknowns c.1.list)) λd=>if (d.2==0) then some ((A9.mk 0 d.1 ([]) ([]) ([])),0) else xH (iR (B3.mk c.1.prime c.1.unknowns c.1.list)) λh=>some ((A9.mk 3 ([]) ([]) ([]) h.1),0)
theorem wU {i j} {d e} {c} (hN:HN B c) (y:Bo B c (qR 2 xC) d i) (z:Bo B c (qR 2 xJ) e j):∀ r,eP N i j=some r->CG B c 116 #[d,e] (.v λf=>.v λh=>.fa (xM r.1.kind) <| .fa (xM r.2) <| .st (.tuple #[.agg #[xB r.1.kind,f,aB,aB,h],xB r.2]) λD=>rl 1 xF 2 f r.1.values::rl 1 xF 2 h r.1.numbers::D):=by
 refine vW func116 [(0,d),(1,e)] hN λr=>?_;obtain⟨Q,rfl,A,C⟩:=xC.o y;refine jX e2 (λ_=>?_);obtain⟨P,rfl,E,F⟩:=xJ.o z;refine jX e2 λ_=>aM rfl λ_=>xK rfl (aH 2 e3 (aH 1 e3 (jB λG I=>?_)));refine jk (λH=>xIq aA (xC.m A (H.a C)) (xJ.m E (H.a F)) G I) λR p t K=>jA 3 rfl (aM rfl (λ_=>?_));refine kG (hv:=(λH=>oc rfl (oc rfl (oc (H.l 1 rfl).one on)))) e3 (xI rfl (oD 2 rfl (xW ?_ ?_)))
 ·refine xN (qC e5 (jo rfl (js [2,0,1,3,4] rfl (kG e3 (xT rfl ?_)))));exact mA (λH=>((H.nl 1 xF 2).nl 1 xF 2).s [1,0] rfl rfl) (cN 0 e2) (rt rfl) ⟨_,_,xU,K,lv⟩
 refine qY (aH 0 e3 (jB λx L=>?_));refine jk (λH=>xEg aA (oZ.m p t (H.l 1 rfl)) x L) λS _=>kW 5 rfl (oD 2 rfl (xW ?_ ?_))
 ·refine xN (jo rfl (jk (λH=>gX (H.l 0 rfl).one _ H.hN) (js [3,0,1,2,4,5] rfl ?_)));refine kG (hv:=(λH=>oc rfl (oc (H.l 1 rfl).one (oc rfl (oc rfl (oc rfl on)))))) e3 (xT rfl ?_);exact mA (λH=>(H.nl 1 xF 2).s [2,0] rfl rfl) (cN 0 e2) (rt rfl) ⟨_,_,xU,xU,lv⟩
 refine qG (aH 1 e3 (jB λM O=>?_));refine jk (λH=>xDg aA (oZ.m p t (H.l 2 rfl)) M O) λT _=>kW 5 rfl (jo rfl ?_);refine qC (hone:=(λH=>oc rfl (oc (H.l 0 rfl).one on))) e5 (js [4,0,1,2,3,5,6] rfl ?_);refine kG (hv:=(λH=>oc rfl (oc rfl (oc rfl (oc rfl (oc (H.l 1 rfl).one on)))))) e3 (xX rfl ?_);exact mA (λH=>(H.nl 1 xF 2).s [0,2] rfl rfl) (cN 0 e2) (rt rfl) ⟨_,_,iV,xU,lv⟩
def wN (N:Nat) (c:A6) (d:A7) (j:Int) (e:Op):Option (A9×Int):= if (j==1) then xH (ix e.table 0) λt=>xH (fB N (A6.mk c.size c.rels) (A7.mk d.vars d.cons) t) λp=>some ((A9.mk p.1.kind p.1.values ([]) ([]) ([])),p.2) else if (j==2) then xH (dC N (A6.mk c.size c.rels) (A7.mk d.vars d.cons) (Op.mk e.arity e.table)) λh=>some ((A9.mk h.1.kind h.1.values h.1.arcs ([]) ([])),h.2) else if (j==3) then xH (fC N (A6.mk c.size c.rels) (A7.mk d.vars d.cons) (Op.mk e.arity e.table)) λf=>some ((A9.mk f.1.kind f.1.values f.1.arcs f.1.pairs ([])),f.2) else xH (eP N (A6.mk c.size c.rels) (A7.mk d.vars d.cons)) λi=>some ((A9.mk i.1.kind i.1.values ([]) ([]) i.1.numbers),i.2)
theorem xJk {G I d K} {j p t} {c} (hN:HN B c) (S:Bo B c (qR 2 xC) j G) (T:Bo B c (qR 2 xJ) p I) (ab:xM d) (A3:Bo B c (qR 2 vX) t K):∀ r,wN N G I d K=some r->CG B c 65 #[j,p,xB d,t] (.v λz=>.v λA=>.v λC=>.v λE=>.fa (xM r.1.kind) <| .fa (xM r.2) <| .st (.tuple #[.agg #[xB r.1.kind,z,A,C,E],xB r.2]) λD=>ow (V:=(Sl 1 xF)) z r.1.values::rl 3 xS 89 A r.1.arcs::rl 3 xO 91 C r.1.pairs::rl 1 xF 2 E r.1.numbers::D):=by
 refine vW func65 [(0,j),(1,p),(2,xB d),(3,t)] hN λr=>?_;obtain⟨v2,rfl,e,f⟩:=xC.o S;refine jX e2 (λ_=>?_);obtain⟨ac,rfl,h,i⟩:=xJ.o T;refine jX e2 (λ_=>?_);obtain⟨v4,rfl,L,x⟩:=vX.o A3;refine jX e2 λ_=>aM rfl λ_=>xI rfl (jo rfl (xJu (oD 2 rfl (xW ?_ ?_))))
 ·refine a_s (jB λz1 U=>(jB λW X=>(js [1,2,3,0] rfl (jh (λH=>H.mg) (jh (λH=>H.mg) (cM λ_ _ _ O y M F _=>(jD (rQ 0 rfl y.r.bk e2 (rQ 1 rfl y.l.r.bk e2 (kJ 2 rfl e2 (gH 3 rfl y.l.l.bk e2 (nM 4 rfl x U λ_ Y=>aY (s:=λH w l=>(O.trans (Sm.mono (H.v w l) F.2.2))) 5 rfl Y λZ=>jE 6 rfl ?_))))))))))));refine jk (λH=>yV aA (xC.m e (H.a (M f))) (xJ.m h (H.a (M i))) Z W X) λv5 i5 i6=>qT (zG [7,8] rfl (jE 9 rfl (js [1,0] rfl ?_)));refine kG (hv:=(λH=>oc rfl (oc (H.l 1 rfl).one (oc rfl (oc rfl (oc rfl on)))))) e3 (qT (zG [10] rfl (gV (xLw (kY F (jh (λH=>H.um) (jh (λH=>H.um) ?_)))))));exact mA (λH=>((((H.nl 3 xS 89).nl 3 xO 91).nl 1 xF 2).s [7,0,1,2,3,4,5,6] rfl rfl).os.s [0,3,2,1] rfl rfl) (cN 3 e2) (rt rfl) ⟨_,_,_,_,i5,i6,lv⟩
 refine xN (oD 2 rfl (xW ?_ ?_))
 ·refine xN (aH 3 e3 (aH 2 e3 (aH 1 e3 (jB λz3 c3=>?_))));refine jk (λH=>uS aA (xC.m e (H.a f)) (xJ.m h (H.a i)) (vX.m L (H.a x)) z3 c3) λv6 v7 i7 i8=>jA 2 rfl (js [2,0,1,3,4,5] rfl ?_);refine kG (hv:=(λH=>oc rfl (oc (H.l 1 rfl).one (oc (H.l 2 rfl).one (oc rfl (oc rfl on)))))) e3 (bE 1 rfl ?_);exact mA (λH=>(((H.nl 3 xO 91).nl 1 xF 2).s [3,0,1,2,4,5,6,7] rfl rfl).os.s [0,4,2,1] rfl rfl) (cN 0 e2) (rt rfl) ⟨_,_,_,_,i7,i8,lv⟩
 refine xN (oD 2 rfl (xW ?_ ?_))
 ·refine xN (aH 3 e3 (aH 2 e3 (aH 1 e3 (jB λz4 c4=>?_))));refine jk (λH=>xAg aA (xC.m e (H.a f)) (xJ.m h (H.a i)) (vX.m L (H.a x)) z4 c4) λv8 v9 ad i9 P=>jA 2 rfl (js [3,0,1,2,4,5,6] rfl ?_);refine kG (hv:=(λH=>oc rfl (oc (H.o 1 rfl).one (oc (H.l 2 rfl).one (oc (H.l 3 rfl).one (oc rfl on)))))) e3 (bE 1 rfl ?_);exact mA (λH=>(H.nl 1 xF 2).s [2,3,4,0] rfl rfl) (cN 0 e2) (rt rfl) ⟨_,_,_,_,i9,P,lv⟩
 refine wA (aH 3 e3 (aH 2 e3 (jB λz5 c5=>?_)));refine jk (λH=>wU aA (xC.m e (H.a f)) (xJ.m h (H.a i)) z5 c5) λae af Q R=>jA 2 rfl (js [2,0,1,3,4,5] rfl ?_);refine kG (hv:=(λH=>oc rfl (oc (H.l 1 rfl).one (oc rfl (oc rfl (oc (H.l 2 rfl).one on)))))) e3 (xX rfl ?_);exact mA (λH=>(((H.nl 3 xS 89).nl 3 xO 91).s [3,0,1,2,4,5,6,7] rfl rfl).os.s [0,2,1,4] rfl rfl) (cN 0 e2) (rt rfl) ⟨_,_,_,_,Q,R,lv⟩
def pD (N:Nat) (d:A6) (f:A7):Option (Int×A9×Int):= xH (aN (A6.mk d.size d.rels) (A7.mk f.vars f.cons)) λh=>if (!h) then some (0,(A9.mk 0 ([]) ([]) ([]) ([])),1) else xH (nT N (A6.mk d.size d.rels)) λe=>if (e.2.2 != 0) then some (0,(A9.mk 0 ([]) ([]) ([]) ([])),e.2.2) else xH (wN N (A6.mk d.size d.rels) (A7.mk f.vars f.cons) e.1 (Op.mk e.2.1.arity e.2.1.table)) λc=>if (c.2 != 0) then some (0,(A9.mk 0 ([]) ([]) ([]) ([])),c.2) else some (e.1,(A9.mk c.1.kind c.1.values c.1.arcs c.1.pairs c.1.numbers),0)
theorem xHu {x y} {d e} {c} (hN:HN B c) (F:Bo B c (qR 2 xC) d x) (G:Bo B c (qR 2 xJ) e y):∀ r,pD N x y=some r->CG B c 39 #[d,e] (.v λi=>.v λj=>.v λp=>.v λt=>.fa (xM r.1) <| .fa (xM r.2.1.kind) <| .fa (xM r.2.2) <| .st (.tuple #[xB r.1,.agg #[xB r.2.1.kind,i,j,p,t],xB r.2.2]) λD=>ow (V:=(Sl 1 xF)) i r.2.1.values::rl 3 xS 89 j r.2.1.arcs::rl 3 xO 91 p r.2.1.pairs::rl 1 xF 2 t r.2.1.numbers::D):=by
 refine vW func39 [(0,d),(1,e)] hN λr=>?_;obtain⟨X,rfl,f,h⟩:=xC.o F;refine jX e2 (λ_=>?_);obtain⟨W,rfl,z,A⟩:=xJ.o G;refine jX e2 λ_=>jo rfl (aM rfl λ_=>xI rfl (aH 2 e3 (aH 1 e3 (jB λI K=>?_))));refine jk (λH=>eY aA (xC.m f (H.a h)) (xJ.m z (H.a A)) I K) (xA rfl (xW ?_ ?_))
 ·refine xN (qC e5 (jo rfl (kG e3 (xT rfl ?_))));exact j3m (λH=>(((((H.nl 1 xF 2).nl 3 xS 89).nl 3 xO 91).nl 1 xF 2).s [3,0,1,2,4,5,6] rfl rfl).os.s [0,3,2,1] rfl rfl) (rt rfl) (cN 0 e2) (rt rfl) ⟨_,_,_,_,xU,xU,zD,lv⟩
 refine qG (aH 2 e3 (jB λL M=>?_));refine jk (λH=>xGr aA (xC.m f (H.a h)) L M) λY C O P=>jA 4 rfl (aM rfl λ_=>jo rfl ?_);refine kG (hv:=(λH=>oc rfl (oc (H.l 1 rfl).one on))) e3 (xI rfl (oD 2 rfl (xW ?_ ?_)))
 ·refine xN (qC e5 (jA 2 rfl (js [2,0,1,3,4] rfl (kG e3 (xT rfl ?_)))));exact j3m (λH=>(((((H.nl 1 xF 2).nl 3 xS 89).nl 3 xO 91).nl 1 xF 2).s [3,0,1,2,4,5,6,7,8] rfl rfl).os.s [0,3,2,1] rfl rfl) (rt rfl) (cN 0 e2) (rt rfl) ⟨_,_,_,_,xU,xU,P,lv⟩
 refine qG (aH 4 e3 (aH 3 e3 (jo rfl (aH 0 e3 (jB λQ R=>?_)))));refine jk (λH=>xJk aA (xC.m f (H.a h)) (xJ.m z (H.a A)) C (vX.m O (H.l 1 rfl)) Q R) λZ v5 v6 v7 S T=>jA 3 rfl (aM rfl (λ_=>?_));refine kG (hv:=(λH=>oc rfl (oc (H.o 1 rfl).one (oc (H.l 2 rfl).one (oc (H.l 3 rfl).one (oc (H.l 4 rfl).one on)))))) e3 (xI rfl (oD 2 rfl (xW ?_ ?_)))
 ·refine xN (qC e5 (jA 2 rfl (js [7,0,1,2,3,4,5,6,8,9] rfl (kG e3 (xT rfl ?_)))));exact j3m (λH=>(((((H.nl 1 xF 2).nl 3 xS 89).nl 3 xO 91).nl 1 xF 2).s [3,0,1,2,4,5,6,7,8,9,10,11,12,13] rfl rfl).os.s [0,3,2,1] rfl rfl) (rt rfl) (cN 0 e2) (rt rfl) ⟨_,_,_,_,xU,xU,T,lv⟩
 refine oJ (cM λ_ _ _ _ U _ E _=>(jD (zG [0] rfl (rQ 1 rfl U.bk e2 (zG [2] rfl (jE 3 rfl (js [6,0,1,2,3,4,5,7,8] rfl ?_)))))));refine kG (hv:=(λH=>oc rfl (oc (H.o 1 rfl).one (oc (H.l 2 rfl).one (oc (H.l 3 rfl).one (oc (H.l 4 rfl).one on)))))) e3 (qT (zG [4] rfl (gV (lY (kY E ?_)))));exact j3m (λH=>H.s [2,3,4,5] rfl rfl) (rt rfl) (cN 1 e2) (rt rfl) ⟨_,_,_,_,C,S,xU,lv⟩
end
section
set_option maxHeartbeats 1000000
set_option maxRecDepth 100000
open Go.RowKit
def iP (N:Nat) (c:B6):Option ((List A9)×Bool):= qD (σ:=Bool) (xH (zP (A6.mk c.template.size c.template.rels)) λf=>if (!f) then some (.nx true) else xH (bI (c.jobs.length:Int) 1 4) λh=>if (!h) then some (.nx true) else xH (bI c.clerks 1 3) λi=>some (.nx (!i))) λj=>if j then some ([],false) else qD (σ:=List A9) (oM (λy (e:A7) p=>xH (pD N (A6.mk c.template.size c.template.rels) (A7.mk e.vars e.cons)) λd=>if (d.2.2 != 0) then some (.ret ([],false)) else xH (ap p ([(A9.mk d.2.1.kind d.2.1.values d.2.1.arcs d.2.1.pairs d.2.1.numbers)])) λt=>some (.go t)) c.jobs 0 []) λx=>some (x,true)
theorem xJf {B:Nat->Prop} {N c} {f} {h} (hN:HN B h) (L:Bo B h (qR 4 vT) f c):∀ r,iP N c=some r->CG B h 18 #[f] (.v λx=>.st (.tuple #[x,.bool r.2]) λD=>rl 5 oK 57 x r.1::D):=by
 refine vW Tryz.func18 [(0,f)] hN λr=>?_;obtain⟨y,i,rfl,z,A,j,I⟩:=vT.o L;refine jX e2 λd=>jA 2 rfl (gL ?_);refine vA (λM=>.st [(1,oU d),(26,.bool M)] [bx d [xB c.template.size,y,i,xB c.clerks] 37]) ?_ (λ_=>?_)
 ·
  refine iQ (oH e2 (aH 0 e3 (jB λO K=>?_)));refine jk (λH=>fJ aA (xC.m z (H.a A)) O K) (jA 2 rfl (dZ 14 (λ_=>?_) (λ_=>?_)))
  ·exact oD 12 rfl (jf ls)
  refine oH e2 (jb 0 e3 (jL j λP=>jB λQ R=>(jk (λH=>bN aA P zD tY Q R) (jA 3 rfl (dZ 21 (λ_=>?_) (λ_=>?_))))))
  ·exact oD 5 rfl (jf ls)
  exact oH e2 (jb 0 e3 (jB λS T=>(jk (λH=>bN aA I zD iV S T) (oD 2 rfl (jf ls)))))
 refine dA (xW ?_ ?_)
 ·refine xN (pC 2 rfl (jh (λH=>H.nl 5 oK 57) (js [0] rfl ?_)));exact j2 (rt rfl) (rt rfl) ⟨_,lv⟩
 refine qG (jR0 oK λv3=>xI rfl (oH e2 (jb 1 e3 (jL j λC=>xA rfl (vA (λU=>.v λp=>.st [(4,p)] [rl 5 oK 57 p U]) ?_ (λ_ p=>?_))))))
 ·
  refine zH ?_;refine jl (λE F=>.v λt=>.st [(31,xB (E:Int)),(1,oU d),(4,t),(29,i),(30,xB (c.jobs.length:Int))] [rl 5 oK 57 t F,bx d [xB c.template.size,y,i,xB c.clerks] 37]) ⟨_,ls⟩ (λ_ F _ W t=>?_) (λE x1 _ e X _=>?_)
  ·have Y:=oO W;refine xN (xR rfl (zX Y (xP (js [0] rfl ?_))));exact jf ⟨_,ls⟩
  refine xN (xR rfl (kA (xZ e) (oJ ?_)));have j1:=bV (Ae e) C;refine qH (jI j X λ_ Z=>jlA Z λ_ h4=>aM rfl (λ_=>?_));obtain⟨v6,rfl,i4,G⟩:=xJ.o h4;refine kG (hv:=(λH=>oc rfl (oc (H.a G).one on))) e3 (qS (oH e2 (aH 2 e3 (aH 0 e3 (jB λz4 c3=>?_)))));refine jk (λH=>xHu aA (xC.m z (H.a A)) (xJ.m i4 (H.a G)) z4 c3) λv7 v8 v9 a6 _ i5 _=>jA 4 rfl (aM rfl λ_=>jo rfl ?_);refine kG (hv:=(λH=>oc rfl (oc (H.o 1 rfl).one (oc (H.l 2 rfl).one (oc (H.l 3 rfl).one (oc (H.l 4 rfl).one on)))))) e3 (xI rfl (oD 2 rfl (xW ?_ ?_)))
  ·refine xN (jA 2 rfl (aZ (dB (zC (cV (eT (jh (λH=>H.nl 5 oK 57) (js [0] rfl ?_))))))));exact j2 (rt rfl) (rt rfl) ⟨_,lv⟩
  refine xLe (jo rfl (aH 0 e3 (js [1,2,3,4,0,5,6,7] rfl (jh (λH=>oK.wo i5 H) (tD (λH=>El.agg) λ_=>jB λz5 c4=>(js [3,0,1,2,4] rfl (jPL c4 λa7=>zL 1 rfl (oE (qE e C) (xA rfl (js [0,3] rfl ?_))))))))));exact jg ⟨_,ls⟩
 refine oQ (qZ 3 rfl ?_);exact j2 (rt rfl) (rt rfl) ⟨_,lv⟩
def mO (N:Nat) (c:B6):Option ((List A9)×Int):= xH (iP N (B6.mk (A6.mk c.template.size c.template.rels) c.jobs c.clerks)) λd=>if (!d.2) then some ([],1) else some (d.1,0)
theorem uT {B:Nat->Prop} {N f} {c} {d} (hN:HN B d) (i:Bo B d (qR 4 vT) c f):∀ r,mO N f=some r->CG B d 7 #[c] (.v λe=>.fa (xM r.2) <| .st (.tuple #[e,xB r.2]) λD=>rl 5 oK 57 e r.1::D):=by
 refine vW Tryz.func7 [(0,c)] hN λr=>?_;obtain⟨z,A,rfl,j,p,t,h⟩:=vT.o i;refine jX e2 λ_=>kW 2 rfl (aH 0 e3 (jB λx y=>?_));refine jk (λH=>xJf aA (vT.m j (H.a p) (H.a t) h) x y) λC=>fL 5 rfl (oD 2 rfl (xW ?_ ?_))
 ·refine xN (pC 2 rfl (jh (λH=>H.nl 5 oK 57) (js [0] rfl ?_)));exact j2 (rt rfl) (rt rfl) ⟨_,zD,lv⟩
 refine qG (qZ 3 rfl (js [0] rfl ?_));exact j2 (rt rfl) (rt rfl) ⟨_,xU,lv⟩
end
section
set_option maxHeartbeats 1000000
set_option maxRecDepth 100000
open Go.RowKit
variable {B:Nat->Prop}
def laws_markInt64S (c:List Int) (h:Int):Option (Int×(List Int)):= qD (σ:=Int×(List Int)) (oM (λd (t:Int) s=>match s with | (e,f)=>xH (ix f (d:Int)) λx=>xH (ck (e+1)) λi=>some (.go (i,(f.set ((d:Int)).toNat e)))) c 0 (h,c)) λ(j,p)=>some (j,p)
theorem laws_markInt64S_c {f:List Int} {h:Int} (r:Int×(List Int)) (K:laws_markInt64S f h=some r) {c:Vl} {y:List Nat} (d:Wd) (hN:HN B d) (L:Sep y B d d [ow (V:=(Sl 1 xF)) c f]) (G:xM h):Calls Tryz.prog 24 #[c,xB h] d (Gt B d y (.fa (xM r.1) <| .st (xB r.1) λD=>ow (V:=Sl 1 xF) c r.2::D)):=by
 unfold laws_markInt64S at K
 revert r
 refine jin Tryz.func24 [(0,c),(1,xB h)] L λr=>?_;refine xN (xI rfl (xA rfl (vA (λ(p,t)=>.fa (xM p) <| .fa (t.length=f.length) <| .st [(0,c),(1,xB p)] [ow (V:=(Sl 1 xF)) c t]) ?_ (λ(p,t) M _=>?_))))
 ·
  refine zH ?_;refine jl (λz (i,j)=>.fa (xM i) <| .fa (j.length=f.length) <| .st [(5,xB (z:Int)),(0,c),(1,xB i)] [ow (V:=(Sl 1 xF)) c j]) ⟨G,rfl,ls⟩ (λ_ (i,j) _ A x hl=>?_) (λz _ (i,j) e _ x hl=>?_)
  ·rw[<- hl] at A;have N:=oO A;refine xV (jA 2 rfl (nO (λH=>H.o 0 rfl) λ_=>xA rfl (zX N (xP ?_))));exact jf ⟨x,hl,ls⟩
  rw[<- hl] at e;refine xV (jA 2 rfl (nO (λH=>H.o 0 rfl) λC=>xA rfl (kA (xZ e) (oJ ?_))));have j2:=bV (Ae e) C;refine qH (jA 3 rfl (jB λO E=>(jRo 0 E λ_ I=>jSo I (cI E) x rfl (eR (jo rfl (jB λP F=>(kE F (zL 1 rfl (jo rfl (oE (qE e C) (xA rfl ?_)))))))))));exact jg ⟨(zI F),vV hl,ls⟩
 refine oQ (qZ 2 rfl ?_);exact j1 (rt rfl) ⟨M,lv⟩
def laws_markInt64SS (c:List (List Int)) (i:Int):Option (Int×(List (List Int))):= qD (σ:=Int×(List (List Int))) (oM (λd (x:(List Int)) s=>match s with | (j,e)=>xH (ix e (d:Int)) λp=>xH (laws_markInt64S p j) λf=>some (.go (f.1,(e.set ((d:Int)).toNat f.2)))) c 0 (i,c)) λ(t,h)=>some (t,h)
theorem laws_markInt64SS_c {f:List (List Int)} {h:Int} (r:Int×(List (List Int))) (I:laws_markInt64SS f h=some r) {c:Vl} {y:List Nat} (d:Wd) (hN:HN B d) (K:Sep y B d d [ow (V:=(Sl 1 (zV 1 xF))) c f]) (F:xM h):Calls Tryz.prog 70 #[c,xB h] d (Gt B d y (.fa (xM r.1) <| .st (xB r.1) λD=>ow (V:=Sl 1 (zV 1 xF)) c r.2::D)):=by
 unfold laws_markInt64SS at I
 revert r
 refine jin Tryz.func70 [(0,c),(1,xB h)] K λr=>?_;refine xN (xI rfl (xA rfl (vA (λ(t,p)=>.fa (xM t) <| .fa (p.length=f.length) <| .st [(0,c),(1,xB t)] [ow (V:=(Sl 1 (zV 1 xF))) c p]) ?_ (λ(t,p) L _=>?_))))
 ·
  refine zH ?_;refine jl (λz (i,j)=>.fa (xM i) <| .fa (j.length=f.length) <| .st [(5,xB (z:Int)),(0,c),(1,xB i)] [ow (V:=(Sl 1 (zV 1 xF))) c j]) ⟨F,rfl,ls⟩ (λ_ (i,j) _ A x hl=>?_) (λz _ (i,j) e _ x hl=>?_)
  ·rw[<- hl] at A;have M:=oO A;refine xV (jA 2 rfl (nO (λH=>H.o 0 rfl) λ_=>xA rfl (zX M (xP ?_))));exact jf ⟨x,hl,ls⟩
  rw[<- hl] at e;refine xV (jA 2 rfl (nO (λH=>H.o 0 rfl) λC=>xA rfl (kA (xZ e) (oJ ?_))));have j2:=bV (Ae e) C;refine yP (jA 2 rfl (jB λS E=>(jRw 0 E λ_ G=>jLw Ln.sl G (bD E) λR=>jo rfl (jB λN O=>(jko 1 (λP H=>laws_markInt64S_c N O _ H.hN P x) λQ=>jh (λH=>Sep.unw H) (zL 1 rfl (jo rfl (oE (qE e C) (xA rfl ?_)))))))));exact jg ⟨Q,vV hl,ls⟩
 refine oQ (qZ 2 rfl ?_);exact j1 (rt rfl) ⟨L,lv⟩
def laws_markRelS (f:List Rel) (p:Int):Option (Int×(List Rel)):= qD (σ:=Int×(List Rel)) (oM (λc (z:Rel) s=>match s with | (d,e)=>xH (ix e (c:Int)) λh=>xH (ck (d+1)) λt=>xH (ix (e.set ((c:Int)).toNat { h with arity:=d }) (c:Int)) λi=>xH (laws_markInt64SS i.tuples t) λj=>some (.go (j.1,((e.set ((c:Int)).toNat { h with arity:=d }).set ((c:Int)).toNat { i with tuples:=j.2 })))) f 0 (p,f)) λ(x,y)=>some (x,y)
theorem laws_markRelS_c {f:List Rel} {h:Int} (r:Int×(List Rel)) (O:laws_markRelS f h=some r) {c:Vl} {y:List Nat} (d:Wd) (hN:HN B d) (P:Sep y B d d [ow (V:=(Sl 2 oR)) c f]) (I:xM h):Calls Tryz.prog 45 #[c,xB h] d (Gt B d y (.fa (xM r.1) <| .st (xB r.1) λD=>ow (V:=Sl 2 oR) c r.2::D)):=by
 unfold laws_markRelS at O
 revert r
 refine jin Tryz.func45 [(0,c),(1,xB h)] P λr=>?_;refine xN (xI rfl (xA rfl (vA (λ(p,t)=>.fa (xM p) <| .fa (t.length=f.length) <| .st [(0,c),(1,xB p)] [ow (V:=(Sl 2 oR)) c t]) ?_ (λ(p,t) Q _=>?_))))
 ·
  refine zH ?_;refine jl (λz (i,j)=>.fa (xM i) <| .fa (j.length=f.length) <| .st [(5,xB (z:Int)),(0,c),(1,xB i)] [ow (V:=(Sl 2 oR)) c j]) ⟨I,rfl,ls⟩ (λ_ (i,j) _ A x hl=>?_) (λz _ (i,j) e _ x hl=>?_)
  ·rw[<- hl] at A;have R:=oO A;refine xV (jA 2 rfl (nO (λH=>H.o 0 rfl) λ_=>xA rfl (zX R (xP ?_))));exact jf ⟨x,hl,ls⟩
  rw[<- hl] at e;refine xV (jA 2 rfl (nO (λH=>H.o 0 rfl) λC=>xA rfl (kA (xZ e) (oJ ?_))));have j2:=bV (Ae e) C;refine qH (jA 3 rfl (jB λY E=>(jRw 0 E λ_ K=>jFw K λ_ L=>jSw (oR.st0 x) L (bD E) rfl (qS (jo rfl (jB λZ F=>(kE F (jo rfl (eR (jA 2 rfl (jB λz3 G=>(jRw 0 G (λ_ M=>?_)))))))))))));refine jFw M λ_ N=>jLw oR.ln1 N (bD G) λX=>jo rfl (jB λS T=>(jko 1 (λU H=>laws_markInt64SS_c S T _ H.hN U (zI F)) λW=>jh (λH=>Sep.unw H) (zL 1 rfl (jo rfl (oE (qE e C) (xA rfl ?_))))));exact jg ⟨W,vV hl,ls⟩
 refine oQ (qZ 2 rfl ?_);exact j1 (rt rfl) ⟨Q,lv⟩
def laws_markConS (f:List Con) (p:Int):Option (Int×(List Con)):= qD (σ:=Int×(List Con)) (oM (λc (z:Con) s=>match s with | (d,e)=>xH (ix e (c:Int)) λh=>xH (ck (d+1)) λt=>xH (ix (e.set ((c:Int)).toNat { h with rel:=d }) (c:Int)) λi=>xH (laws_markInt64S i.scope t) λj=>some (.go (j.1,((e.set ((c:Int)).toNat { h with rel:=d }).set ((c:Int)).toNat { i with scope:=j.2 })))) f 0 (p,f)) λ(x,y)=>some (x,y)
theorem laws_markConS_c {f:List Con} {h:Int} (r:Int×(List Con)) (O:laws_markConS f h=some r) {c:Vl} {y:List Nat} (d:Wd) (hN:HN B d) (P:Sep y B d d [ow (V:=(Sl 2 vH)) c f]) (I:xM h):Calls Tryz.prog 46 #[c,xB h] d (Gt B d y (.fa (xM r.1) <| .st (xB r.1) λD=>ow (V:=Sl 2 vH) c r.2::D)):=by
 unfold laws_markConS at O
 revert r
 refine jin Tryz.func46 [(0,c),(1,xB h)] P λr=>?_;refine xN (xI rfl (xA rfl (vA (λ(p,t)=>.fa (xM p) <| .fa (t.length=f.length) <| .st [(0,c),(1,xB p)] [ow (V:=(Sl 2 vH)) c t]) ?_ (λ(p,t) Q _=>?_))))
 ·
  refine zH ?_;refine jl (λz (i,j)=>.fa (xM i) <| .fa (j.length=f.length) <| .st [(5,xB (z:Int)),(0,c),(1,xB i)] [ow (V:=(Sl 2 vH)) c j]) ⟨I,rfl,ls⟩ (λ_ (i,j) _ A x hl=>?_) (λz _ (i,j) e _ x hl=>?_)
  ·rw[<- hl] at A;have R:=oO A;refine xV (jA 2 rfl (nO (λH=>H.o 0 rfl) λ_=>xA rfl (zX R (xP ?_))));exact jf ⟨x,hl,ls⟩
  rw[<- hl] at e;refine xV (jA 2 rfl (nO (λH=>H.o 0 rfl) λC=>xA rfl (kA (xZ e) (oJ ?_))));have j2:=bV (Ae e) C;refine qH (jA 3 rfl (jB λY E=>(jRw 0 E λ_ K=>jFw K λ_ L=>jSw (vH.st0 x) L (bD E) rfl (qS (jo rfl (jB λZ F=>(kE F (jo rfl (eR (jA 2 rfl (jB λz3 G=>(jRw 0 G (λ_ M=>?_)))))))))))));refine jFw M λ_ N=>jLw vH.ln1 N (bD G) λX=>jo rfl (jB λS T=>(jko 1 (λU H=>laws_markInt64S_c S T _ H.hN U (zI F)) λW=>jh (λH=>Sep.unw H) (zL 1 rfl (jo rfl (oE (qE e C) (xA rfl ?_))))));exact jg ⟨W,vV hl,ls⟩
 refine oQ (qZ 2 rfl ?_);exact j1 (rt rfl) ⟨Q,lv⟩
def laws_markInstanceS (f:List A7) (p:Int):Option (Int×(List A7)):= qD (σ:=Int×(List A7)) (oM (λc (z:A7) s=>match s with | (d,e)=>xH (ix e (c:Int)) λh=>xH (ck (d+1)) λt=>xH (ix (e.set ((c:Int)).toNat { h with vars:=d }) (c:Int)) λi=>xH (laws_markConS i.cons t) λj=>some (.go (j.1,((e.set ((c:Int)).toNat { h with vars:=d }).set ((c:Int)).toNat { i with cons:=j.2 })))) f 0 (p,f)) λ(x,y)=>some (x,y)
theorem laws_markInstanceS_c {f:List A7} {h:Int} (r:Int×(List A7)) (O:laws_markInstanceS f h=some r) {c:Vl} {y:List Nat} (d:Wd) (hN:HN B d) (P:Sep y B d d [ow (V:=(Sl 2 xJ)) c f]) (I:xM h):Calls Tryz.prog 23 #[c,xB h] d (Gt B d y (.fa (xM r.1) <| .st (xB r.1) λD=>ow (V:=Sl 2 xJ) c r.2::D)):=by
 unfold laws_markInstanceS at O
 revert r
 refine jin Tryz.func23 [(0,c),(1,xB h)] P λr=>?_;refine xN (xI rfl (xA rfl (vA (λ(p,t)=>.fa (xM p) <| .fa (t.length=f.length) <| .st [(0,c),(1,xB p)] [ow (V:=(Sl 2 xJ)) c t]) ?_ (λ(p,t) Q _=>?_))))
 ·
  refine zH ?_;refine jl (λz (i,j)=>.fa (xM i) <| .fa (j.length=f.length) <| .st [(5,xB (z:Int)),(0,c),(1,xB i)] [ow (V:=(Sl 2 xJ)) c j]) ⟨I,rfl,ls⟩ (λ_ (i,j) _ A x hl=>?_) (λz _ (i,j) e _ x hl=>?_)
  ·rw[<- hl] at A;have R:=oO A;refine xV (jA 2 rfl (nO (λH=>H.o 0 rfl) λ_=>xA rfl (zX R (xP ?_))));exact jf ⟨x,hl,ls⟩
  rw[<- hl] at e;refine xV (jA 2 rfl (nO (λH=>H.o 0 rfl) λC=>xA rfl (kA (xZ e) (oJ ?_))));have j2:=bV (Ae e) C;refine qH (jA 3 rfl (jB λY E=>(jRw 0 E λ_ K=>jFw K λ_ L=>jSw (xJ.st0 x) L (bD E) rfl (qS (jo rfl (jB λZ F=>(kE F (jo rfl (eR (jA 2 rfl (jB λz3 G=>(jRw 0 G (λ_ M=>?_)))))))))))));refine jFw M λ_ N=>jLw xJ.ln1 N (bD G) λX=>jo rfl (jB λS T=>(jko 1 (λU H=>laws_markConS_c S T _ H.hN U (zI F)) λW=>jh (λH=>Sep.unw H) (zL 1 rfl (jo rfl (oE (qE e C) (xA rfl ?_))))));exact jg ⟨W,vV hl,ls⟩
 refine oQ (qZ 2 rfl ?_);exact j1 (rt rfl) ⟨Q,lv⟩
def laws_markArcStepS (i:List B1) (t:Int):Option (Int×(List B1)):= qD (σ:=Int×(List B1)) (oM (λc (B:B1) s=>match s with | (d,e)=>xH (ix e (c:Int)) λf=>xH (ck (d+1)) λh=>xH (ix (e.set ((c:Int)).toNat { f with var:=d }) (c:Int)) λj=>xH (ck (h+1)) λp=>xH (ix ((e.set ((c:Int)).toNat { f with var:=d }).set ((c:Int)).toNat { j with value:=h }) (c:Int)) λx=>xH (ck (p+1)) λy=>some (.go (y,(((e.set ((c:Int)).toNat { f with var:=d }).set ((c:Int)).toNat { j with value:=h }).set ((c:Int)).toNat { x with con:=p })))) i 0 (t,i)) λ(z,A)=>some (z,A)
theorem laws_markArcStepS_c {f:List B1} {h:Int} (r:Int×(List B1)) (T:laws_markArcStepS f h=some r) {c:Vl} {y:List Nat} (d:Wd) (hN:HN B d) (U:Sep y B d d [ow (V:=(Sl 3 xS)) c f]) (M:xM h):Calls Tryz.prog 25 #[c,xB h] d (Gt B d y (.fa (xM r.1) <| .st (xB r.1) λD=>ow (V:=Sl 3 xS) c r.2::D)):=by
 unfold laws_markArcStepS at T
 revert r
 refine jin Tryz.func25 [(0,c),(1,xB h)] U λr=>?_;refine xN (xI rfl (xA rfl (vA (λ(p,t)=>.fa (xM p) <| .fa (t.length=f.length) <| .st [(0,c),(1,xB p)] [ow (V:=(Sl 3 xS)) c t]) ?_ (λ(p,t) W _=>?_))))
 ·
  refine zH ?_;refine jl (λz (i,j)=>.fa (xM i) <| .fa (j.length=f.length) <| .st [(5,xB (z:Int)),(0,c),(1,xB i)] [ow (V:=(Sl 3 xS)) c j]) ⟨M,rfl,ls⟩ (λ_ (i,j) _ A x hl=>?_) (λz _ (i,j) e _ x hl=>?_)
  ·rw[<- hl] at A;have X:=oO A;refine xV (jA 2 rfl (nO (λH=>H.o 0 rfl) λ_=>xA rfl (zX X (xP ?_))));exact jf ⟨x,hl,ls⟩
  rw[<- hl] at e;refine xV (jA 2 rfl (nO (λH=>H.o 0 rfl) λC=>xA rfl (kA (xZ e) (oJ ?_))));have j2:=bV (Ae e) C;refine qH (jA 3 rfl (jB λY E=>(jRw 0 E λ_ N=>jFw N λ_ O=>jSw (xS.st0 x) O (bD E) rfl (qS (jo rfl (jB λZ F=>(kE F (xK rfl (jA 3 rfl (jB λz3 G=>(jRw 0 G (λ_ P=>?_))))))))))));refine jFw P λ_ Q=>jSw (xS.st1 (zI F)) Q (bD G) rfl (qS (jo rfl (jB λz4 I=>(kE I (xK rfl (jA 3 rfl (jB λz5 K=>(jRw 0 K λ_ R=>jFw R λ_ S=>jSw (xS.st2 (zI I)) S (bD K) rfl (eR (jo rfl ?_))))))))));refine jB λz6 L=>(kE L (zL 1 rfl (jo rfl (oE (qE e C) (xA rfl ?_)))));exact jg ⟨(zI L),vV hl,ls⟩
 refine oQ (qZ 2 rfl ?_);exact j1 (rt rfl) ⟨W,lv⟩
def laws_markPairStepS (p:List B0) (y:Int):Option (Int×(List B0)):= qD (σ:=Int×(List B0)) (oM (λc (D:B0) s=>match s with | (d,e)=>xH (ix e (c:Int)) λf=>xH (ck (d+1)) λh=>xH (ix (e.set ((c:Int)).toNat { f with i:=d }) (c:Int)) λt=>xH (ck (h+1)) λx=>xH (ix ((e.set ((c:Int)).toNat { f with i:=d }).set ((c:Int)).toNat { t with j:=h }) (c:Int)) λz=>xH (ck (x+1)) λA=>some (.go (A,(((e.set ((c:Int)).toNat { f with i:=d }).set ((c:Int)).toNat { t with j:=h }).set ((c:Int)).toNat { z with through:=x })))) p 0 (y,p)) λ(B,C)=>some (B,C)
theorem laws_markPairStepS_c {f:List B0} {h:Int} (r:Int×(List B0)) (T:laws_markPairStepS f h=some r) {c:Vl} {y:List Nat} (d:Wd) (hN:HN B d) (U:Sep y B d d [ow (V:=(Sl 3 xO)) c f]) (M:xM h):Calls Tryz.prog 26 #[c,xB h] d (Gt B d y (.fa (xM r.1) <| .st (xB r.1) λD=>ow (V:=Sl 3 xO) c r.2::D)):=by
 unfold laws_markPairStepS at T
 revert r
 refine jin Tryz.func26 [(0,c),(1,xB h)] U λr=>?_;refine xN (xI rfl (xA rfl (vA (λ(p,t)=>.fa (xM p) <| .fa (t.length=f.length) <| .st [(0,c),(1,xB p)] [ow (V:=(Sl 3 xO)) c t]) ?_ (λ(p,t) W _=>?_))))
 ·
  refine zH ?_;refine jl (λz (i,j)=>.fa (xM i) <| .fa (j.length=f.length) <| .st [(5,xB (z:Int)),(0,c),(1,xB i)] [ow (V:=(Sl 3 xO)) c j]) ⟨M,rfl,ls⟩ (λ_ (i,j) _ A x hl=>?_) (λz _ (i,j) e _ x hl=>?_)
  ·rw[<- hl] at A;have X:=oO A;refine xV (jA 2 rfl (nO (λH=>H.o 0 rfl) λ_=>xA rfl (zX X (xP ?_))));exact jf ⟨x,hl,ls⟩
  rw[<- hl] at e;refine xV (jA 2 rfl (nO (λH=>H.o 0 rfl) λC=>xA rfl (kA (xZ e) (oJ ?_))));have j2:=bV (Ae e) C;refine qH (jA 3 rfl (jB λY E=>(jRw 0 E λ_ N=>jFw N λ_ O=>jSw (xO.st0 x) O (bD E) rfl (qS (jo rfl (jB λZ F=>(kE F (xK rfl (jA 3 rfl (jB λz3 G=>(jRw 0 G (λ_ P=>?_))))))))))));refine jFw P λ_ Q=>jSw (xO.st1 (zI F)) Q (bD G) rfl (qS (jo rfl (jB λz4 I=>(kE I (xK rfl (jA 3 rfl (jB λz5 K=>(jRw 0 K λ_ R=>jFw R λ_ S=>jSw (xO.st2 (zI I)) S (bD K) rfl (eR (jo rfl ?_))))))))));refine jB λz6 L=>(kE L (zL 1 rfl (jo rfl (oE (qE e C) (xA rfl ?_)))));exact jg ⟨(zI L),vV hl,ls⟩
 refine oQ (qZ 2 rfl ?_);exact j1 (rt rfl) ⟨W,lv⟩
def laws_markVerdictS (z:List A9) (B:Int):Option (Int×(List A9)):= qD (σ:=Int×(List A9)) (oM (λc (F:A9) s=>match s with | (d,e)=>xH (ix e (c:Int)) λf=>xH (ck (d+1)) λC=>xH (ix (e.set ((c:Int)).toNat { f with kind:=d }) (c:Int)) λh=>xH (laws_markInt64S h.values C) λi=>xH (ix ((e.set ((c:Int)).toNat { f with kind:=d }).set ((c:Int)).toNat { h with values:=i.2 }) (c:Int)) λj=>xH (laws_markArcStepS j.arcs i.1) λp=>xH (ix (((e.set ((c:Int)).toNat { f with kind:=d }).set ((c:Int)).toNat { h with values:=i.2 }).set ((c:Int)).toNat { j with arcs:=p.2 }) (c:Int)) λt=>xH (laws_markPairStepS t.pairs p.1) λx=>xH (ix ((((e.set ((c:Int)).toNat { f with kind:=d }).set ((c:Int)).toNat { h with values:=i.2 }).set ((c:Int)).toNat { j with arcs:=p.2 }).set ((c:Int)).toNat { t with pairs:=x.2 }) (c:Int)) λA=>xH (laws_markInt64S A.numbers x.1) λy=>some (.go (y.1,(((((e.set ((c:Int)).toNat { f with kind:=d }).set ((c:Int)).toNat { h with values:=i.2 }).set ((c:Int)).toNat { j with arcs:=p.2 }).set ((c:Int)).toNat { t with pairs:=x.2 }).set ((c:Int)).toNat { A with numbers:=y.2 })))) z 0 (B,z)) λ(D,E)=>some (D,E)
theorem laws_markVerdictS_c {f:List A9} {h:Int} (r:Int×(List A9)) (hR:laws_markVerdictS f h=some r) {c:Vl} {y:List Nat} (d:Wd) (hN:HN B d) (S0:Sep y B d d [ow (V:=(Sl 5 oK)) c f]) (N:xM h):Calls Tryz.prog 11 #[c,xB h] d (Gt B d y (.fa (xM r.1) <| .st (xB r.1) λD=>ow (V:=Sl 5 oK) c r.2::D)):=by
 unfold laws_markVerdictS at hR
 revert r
 refine jin Tryz.func11 [(0,c),(1,xB h)] S0 λr=>?_;refine xN (xI rfl (xA rfl (vA (λ(p,t)=>.fa (xM p) <| .fa (t.length=f.length) <| .st [(0,c),(1,xB p)] [ow (V:=(Sl 5 oK)) c t]) ?_ (λ(p,t) i1 _=>?_))))
 ·
  refine zH ?_;refine jl (λz (i,j)=>.fa (xM i) <| .fa (j.length=f.length) <| .st [(5,xB (z:Int)),(0,c),(1,xB i)] [ow (V:=(Sl 5 oK)) c j]) ⟨N,rfl,ls⟩ (λ_ (i,j) _ A x hl=>?_) (λz _ (i,j) e _ x hl=>?_)
  ·rw[<- hl] at A;have l1:=oO A;refine xV (jA 2 rfl (nO (λH=>H.o 0 rfl) λ_=>xA rfl (zX l1 (xP ?_))));exact jf ⟨x,hl,ls⟩
  rw[<- hl] at e;refine xV (jA 2 rfl (nO (λH=>H.o 0 rfl) λC=>xA rfl (kA (xZ e) (oJ ?_))));have j2:=bV (Ae e) C;refine qH (jA 3 rfl (jB λz1 E=>(jRw 0 E λ_ O=>jFw O λ_ P=>jSw (oK.st0 x) P (bD E) rfl (qS (jo rfl (jB λz2 F=>(kE F (xK rfl (jA 2 rfl (jB λz3 G=>(jRw 0 G (λ_ Q=>?_))))))))))));refine jFw Q λ_ R=>jLw oK.ln1 R (bD G) λai=>jo rfl (jB λz4 c4=>(jko 1 (λK1 H=>laws_markInt64S_c z4 c4 _ H.hN K1 (zI F)) λi4=>jh (λH=>Sep.unw H) (xK rfl (jA 2 rfl (jB λz5 I=>(jRw 0 I λ_ S=>jFw S λ_ T=>jLw oK.ln2 T (bD I) λaj=>jo rfl (jB λz6 c6=>?_)))))));refine jko 1 (λK2 H=>laws_markArcStepS_c z6 c6 _ H.hN K2 i4) λi5=>jh (λH=>Sep.unw H) (xK rfl (jA 2 rfl (jB λz7 K=>(jRw 0 K λ_ U=>jFw U λ_ W=>jLw oK.ln3 W (bD K) λak=>jo rfl (jB λz8 c8=>(jko 1 (λK3 H=>laws_markPairStepS_c z8 c8 _ H.hN K3 i5) λi6=>jh (λH=>Sep.unw H) (jo rfl (eR ?_))))))));refine jA 2 rfl (jB λz9 L=>(jRw 0 L λ_ X=>jFw X λ_ M=>jLw oK.ln4 M (bD L) λal=>jo rfl (jB λY Z=>(jko 1 (λK4 H=>laws_markInt64S_c Y Z _ H.hN K4 i6) λi7=>jh (λH=>Sep.unw H) (zL 1 rfl (jo rfl (oE (qE e C) (xA rfl ?_))))))));exact jg ⟨i7,vV hl,ls⟩
 refine oQ (qZ 2 rfl ?_);exact j1 (rt rfl) ⟨i1,lv⟩
end
section
set_option maxRecDepth 100000
open Go.RowKit
def laws_markTemplate (x0:A6) (x1:Int):Option Int:= xH (laws_markRelS x0.rels x1) λz=>some z.1
theorem laws_markTemplate_c {B:Nat->Prop} {x0:A6} {x1:Int} (r:Int) (hR:laws_markTemplate x0 x1=some r) {v:Vl} {X0:List Nat} (w0:Wd) (hN:∀ c,B c->c<w0.heap.size) (S0:Sep X0 B w0 w0 [ow (V:=Sl 2 oR) v x0.rels]) (qa:xM x1):Calls Tryz.prog 22 #[.agg #[.int .i64 x0.size,v],.int .i64 x1] w0 (Gt B w0 X0 (sI r)):=by
 unfold laws_markTemplate at hR
 revert r
 refine jin Tryz.func22 [(0,.agg #[.int .i64 x0.size,v]),(1,.int .i64 x1)] S0 λr=>?_;refine xN ?_;refine jX e2 (λ_=>?_);refine jA 1 rfl ?_;refine qS ?_;refine oH e2 ?_;refine jb 0 e3 ?_;refine jA 1 rfl ?_;refine jB λz c=>?_;refine js [1,0] rfl ?_;refine jko 1 (λK H=>laws_markRelS_c z c _ H.hN K qa) (λi=>?_);refine jA 1 rfl ?_;refine qS ?_;refine jA 2 rfl ?_;refine lU ?_;exact qJ ⟨i,lv⟩
def laws_markHouse (x0:B6) (x1:Int):Option Int:= xH (laws_markTemplate x0.template x1) λz=>xH (laws_markInstanceS x0.jobs z) λz2=>some z2.1
theorem laws_markHouse_c {B:Nat->Prop} {x0:B6} {x1:Int} (r:Int) (hR:laws_markHouse x0 x1=some r) {v1 v2:Vl} {X0:List Nat} (w0:Wd) (hN:∀ c,B c->c<w0.heap.size) (S0:Sep X0 B w0 w0 [ow (V:=Sl 2 oR) v1 x0.template.rels,ow (V:=Sl 2 xJ) v2 x0.jobs]) (i1:xM x0.template.size) (i2:xM x0.clerks) (qa:xM x1):Calls Tryz.prog 10 #[.agg #[.int .i64 x0.template.size,v1,v2,.int .i64 x0.clerks],.int .i64 x1] w0 (Gt B w0 X0 (sI r)):=by
 unfold laws_markHouse at hR
 revert r
 refine jin Tryz.func10 [(0,.agg #[.int .i64 x0.template.size,v1,v2,.int .i64 x0.clerks]),(1,.int .i64 x1)] S0 λr=>?_;refine xN ?_;refine jX e2 (λ_=>?_);refine jA 1 rfl ?_;refine qS ?_;refine oH e2 ?_;refine aH 0 e3 ?_;refine jA 1 rfl ?_;refine jB λz c=>?_;refine js [1,0,2] rfl ?_;refine jko 1 (λK H=>laws_markTemplate_c z c _ H.hN K qa) (λi=>?_);refine jA 1 rfl ?_;refine qS ?_;refine oH e2 ?_;refine jb 0 e3 ?_;refine jA 1 rfl ?_;refine jB λz2 c2=>?_;refine js [1,0] rfl ?_;refine jko 1 (λK H=>laws_markInstanceS_c z2 c2 _ H.hN K i) (λi2=>?_);refine jA 1 rfl ?_;refine qS ?_;refine jA 2 rfl ?_;refine lU ?_;exact qJ ⟨i2,lv⟩
end
end Go.Proofs.YtomlfdagbmgmgaaGreat
