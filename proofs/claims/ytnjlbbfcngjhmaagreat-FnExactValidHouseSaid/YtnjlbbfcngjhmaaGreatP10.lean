import Derived.Test.YtnjlbbfcngjhmaaGreatP9
namespace Go.Proofs.YtnjlbbfcngjhmaaGreat
set_option linter.unusedVariables false
set_option linter.unusedSimpArgs false
open Go.Proofs.Tryz
set_option maxHeartbeats 1000000
set_option maxRecDepth 100000
open Go.RowKit
variable {B:Nat->Prop} {N:Nat}
def fU (e:B1):Option ((List rowT)×(List Int)):= oZ (σ:=List rowT) (oM (λB (C:A8) M=>xG (pN (0:Int) (e.list.length:Int)) λD=>xG (ix D (B:Int)) λX=>xG (oH C.left) λN=>xG (ap N ([C.right])) λO=>xG (ap M ([(rowT.mk O (D.set ((B:Int)).toNat 1))])) λP=>some (.go P)) e.list 0 []) λQ=>oZ (σ:=(List Int)×(List rowT)) (qM (λh s=>match s with | (c,d)=>xG (sl d (c.length:Int) (d.length:Int)) λR=>xG (zI R (λS=>iB S (h:Int))) λE=>if (decide (E<0)) then some (.go (c,d)) else xG (ck ((c.length:Int)+E)) λi=>xG (ix d i) λx=>xG (ix d (c.length:Int)) λp=>xG (ix ((d.set ((c.length:Int)).toNat x).set (i).toNat p) (c.length:Int)) λz=>xG (ix z.numbers (h:Int)) λF=>xG (mX F) λG=>xG (iC z e.prime G) λf=>oZ (σ:=List rowT) (oM (λy (Y:rowT) j=>xG (ix j (y:Int)) λt=>if ((y:Int) != (c.length:Int)) then xG (ix j (c.length:Int)) λH=>xG (ix t.numbers (h:Int)) λI=>xG (ck (e.prime - I)) λK=>xG (aS (rowT.mk t.numbers t.bys) e.prime H K) λA=>some (.go (j.set ((y:Int)).toNat (rowT.mk A.numbers A.bys))) else some (.go j)) (((d.set ((c.length:Int)).toNat x).set (i).toNat p).set ((c.length:Int)).toNat (rowT.mk f.numbers f.bys)) 0 (((d.set ((c.length:Int)).toNat x).set (i).toNat p).set ((c.length:Int)).toNat (rowT.mk f.numbers f.bys))) λT=>xG (ap c ([(h:Int)])) λL=>some (.go (L,T))) e.unknowns.toNat 0 ([],Q)) λ(U,W)=>some (W,U)
theorem tY {c} (r) (hR:fU c=some r) {v0} (w0) (hN:HN B w0) (A0:Bo B w0 (qS 3 oR) v0 c):CG B w0 225 #[v0] (.v λac=>.v λad=>.st (.tuple #[ac,ad]) λD=>rw N0 2 zP 270 ac r.1::rl 1 xF 2 ad r.2::D):=by
 unfold fU at hR
 revert r
 refine vM func225 [(0,v0)] hN λr=>?_;refine xI ?_;obtain⟨t,rfl,i1,i2,h1⟩:=oR.o A0;refine jX e2 λi=>xM 2 rfl (jR0 zP λd9=>xK 1 rfl (xZ e2 (jb 1 e3 (jL h1 λi3=>xC 1 rfl ?_))));refine qZ (λs1=>.v λv2=>.st [(1,oK i),(4,v2)] [rl 2 zP 270 v2 s1,bx i [xA c.prime,xA c.unknowns,t] 130]) ?_ (λs1 v2=>?_)
 ·
  refine zK ?_;refine jl (λL M=>.v λy=>.st [(18,xA (L:Int)),(1,oK i),(4,y),(16,t),(17,xA (c.list.length:Int))] [rl 2 zP 270 y M,bx i [xA c.prime,xA c.unknowns,t] 130]) ⟨_,ls⟩ (λ_ M _ q1 y=>?_) (λL x1 M O y1 y=>?_)
  ·have l2:=oU q1;refine xI (xW 1 rfl (kJ l2 (xN ?_)));exact jf ⟨_,ls⟩
  refine xI (xW 1 rfl (kO (xX O) (xY ?_)));have j1:=dS (Ah O) i3;refine qE (jo rfl (jI h1 y1 λ_ h2=>jlA h2 λ_ h3=>aK rfl λ_=>jo rfl ?_));obtain⟨v4,rfl,h4,i4⟩:=xJ.o h3;refine zX (hv:=(λH=>oc (H.a h4).one (oc rfl on))) e3 (qW (xZ e2 (jb 2 e3 (jL h1 λ_=>jB λz1 c1=>?_))));refine jRM (R:=xF) (λw=>⟨rfl,by decide,rfl⟩) c1 λv5=>xM 1 rfl (jA 2 rfl (jB λz2 c2=>(jRl 0 c2 λ_ bg=>jh (λH=>H.lw) (jS bg (dL c2) (λH=>Eo.int zL) rfl (jh (λH=>H.tl) (kD (jB λz3 c3=>?_)))))));refine jB λz4 c4=>(jB λz5 c5=>(js [1,0,2,3] rfl (cZ λw1 X1 N1 _ g1 e1 bh _=>?_)));have K1:=g1.bk;refine jD ?_;refine jdp (f:=5) (ls:=#[true,true,true,true,true,true,true,false,true,false,false,false,false]) (.v λv6=>.v λv7=>.st [(1,oK i),(4,y),(16,t),(17,xA (c.list.length:Int)),(18,xA (L:Int)),(30,y),(33,v6),(36,v7),(38,v5)] [rl 1 xF 2 v6 z3,rl 1 xF 2 v7 ([x1.right]),rl 1 xF 2 v5 (z1.set ((L:Int)).toNat 1),rl 2 zP 270 y M,bx i [xA c.prime,xA c.unknowns,t] 130]) (λ_ _=>?_) (λH1=>?_)
  ·refine jE 7 rfl (jPL c4 λ_=>qK (jE 9 rfl ?_));refine oV (hone:=(λH=>oc (H.l 0 rfl).one (oc (H.l 1 rfl).one on))) e5 (qK (jE 10 rfl (jh (λH=>zP.w H) (uL (λH=>El.agg) λ_=>qK (jE 11 rfl (js [1,0,2] rfl (jPL c5 λv8=>qK (zF [12] rfl ?_))))))));refine iT (aH (xU (qG O i3) (xC 1 rfl (aI bh (js [1,2] rfl ?_)))));exact jg ⟨_,ls⟩
  refine zF [0] rfl (kB 1 rfl e2 (iG 2 rfl K1 e2 (kB 4 rfl e2 (iG 5 rfl K1 e2 (zF [8] rfl (eG (λH=>H) 3 6 rfl rfl ?_ ?_))))))
  ·refine jk (λH=>qO z3 c3 _ aA (H.a (e1 h4))) λv9=>qK (jE 6 rfl (lQ (λH=>Eo.int i4) λda=>qK (js [1,0,2,3,4] rfl ?_)));exact H1 ⟨_,_,ls⟩
  refine lQ (λH=>Eo.int i4) λdb=>qK (jE 3 rfl (jk (λH=>qO z3 c3 _ aA (H.a (e1 h4))) λdc=>qK ?_));exact H1 ⟨_,_,ls⟩
 refine oO (jR0 xF λdd=>xK 1 rfl (xZ e2 (jb 2 e3 (xC 1 rfl (qZ (λ(s3,s4)=>.v λP=>.v λQ=>.st [(4,Q),(8,P)] [rl 1 xF 2 P s3,rw N0 2 zP 270 Q s4]) ?_ (λ(s3,s4) P Q=>?_))))))
 ·
  refine zK (js [1,0,2] rfl (jh (λH=>H.lw) (js [1,0,2] rfl ?_)));refine jc (λz (d,j)=>.v λp=>.v λA=>.st [(46,xA (z:Int)),(1,oK i),(4,A),(8,p),(45,xA c.unknowns)] [rl 1 xF 2 p d,rw N0 2 zP 270 A j,bx i [xA c.prime,xA c.unknowns,t] 130]) ⟨_,_,ls⟩ (λ_ (d,j) _ C p A=>?_) (λ_ z (d,j) C p A=>?_)
  ·have l3:=vD C;refine xI (xW 1 rfl (kJ l3 (xN (js [0,1] rfl ?_))));exact jf ⟨_,_,ls⟩
  refine xI (xW 1 rfl (kO (qP C) (xY ?_)));have j3:=dT C i2;have m1:=vY C i2;refine qE (jo rfl (aK rfl λN=>jW e3 (qW (jo rfl (jLc (λH=>H.l 1 rfl) λ_=>xM 1 rfl (jA 2 rfl (jB λz6 c6=>?_)))))));refine js [2,0,1,3] rfl (cZ λ_ _ _ _ g2 _ ae _=>(jC rfl rfl g2.rd c6 λ_ h5=>dJ e2 (jB λz7 c7=>(jk (λH=>jM z7 c7 _ aA (H.a h5) call266 (λa0 r h W l1 u0 f0=>xHk r h W aA f0 ((c1I (H.g 0 rfl).bk j3).w l1))) λde=>xK 1 rfl (xC 2 rfl (xT ?_ ?_))))))
  ·refine xPr (xU m1 (xC 1 rfl (js [1,2] rfl (aI ae (js [1,0,2] rfl ?_)))));exact jg ⟨_,_,ls⟩
  refine xY (aI ae (jB λx c8=>(jB λz9 I=>(jB λbi E=>?_))));have lx1288:((d.length:Int)).toNat<j.length:=(Ac.1 (aE E).2).1;have ly1288:x.toNat<j.length:=(Ac.1 (aE I).2).1;refine xMa (λH=>H.opw (Nat.zero_lt_of_lt lx1288)) λ⟨g3,df,cs1288⟩ hV1288=>jfc (λH=>H.sw.onw) (λab=>?_);have hle1288:j.length*2<=cs1288.length:=hV1288.le;have k3:=xAt (cs:=cs1288) (sz:=2) lx1288 hle1288;have kk1288:=xAt (cs:=cs1288) (sz:=2) ly1288 hle1288;have dl1288:0<=((d.length:Int):Int)/\((d.length:Int):Int)<(j.length:Int):=⟨(aE E).1,by have:=(aE E).1;omega⟩;have al1288:0<=x/\x<(j.length:Int):=⟨(aE I).1,by have:=(aE I).1;omega⟩;refine jev 4 hV1288.e (cZ λ_ _ _ _ g9 _ bj _=>?_);have K2:=g9.bk;refine jD (zF [0,1,2,3,4] rfl (jvz 5 rfl (λF H w l=>wH F rfl rfl c8) (zF [6,7,8] rfl (jvz 9 rfl (λF H w l=>wH F rfl rfl c8) (xGm 10 rfl al1288 ?_)))));refine rY 11 rfl K2 ⟨rfl,(rfl:_=cl cs1288 2 x.toNat)⟩ ?_ (hl:=kk1288);refine zF [12,13] rfl (xGm 14 rfl dl1288 ?_);refine rY 15 rfl K2 ⟨rfl,(rfl:_=cl cs1288 2 ((d.length:Int)).toNat)⟩ ?_ (hl:=k3);refine xGm 16 rfl dl1288 (jF9 17 rfl (aI bj ?_));refine zX (hv:=λ_ v hv=>ab _ _ (aE I).2 v hv) ⟨rfl,rfl,(rfl:_=wr cs1288 (((d.length:Int)).toNat*2) (cl cs1288 2 x.toNat))⟩ ?_ kk1288 (ho:=by rw[kk1288,Nat.ble_eq];(try dsimp only);omega);refine cS (aY (xGm 18 rfl al1288 (jF9 19 rfl ?_)));refine zX (hv:=λ_ v hv=>ab _ _ (aE E).2 v hv) ⟨rfl,rfl,(rfl:_=wr (wr cs1288 (((d.length:Int)).toNat*2) (cl cs1288 2 x.toNat)) (x.toNat*2) (cl cs1288 2 ((d.length:Int)).toNat))⟩ ?_ k3 (ho:=by rw[k3,wM (by(try dsimp only);omega),Nat.ble_eq];(try dsimp only);omega);refine cS (aY (iT ?_));refine jh (λH=>(H.sw.sww (aE E).2 (aE I).2 hle1288).sw.clw (v:=A) ⟨by rw[Cn,Cn];exact hV1288.e,by rw[Cn,Cn,wM (by rw[wM (by omega)];omega),wM (by omega)];exact hV1288.h⟩) (jev 4 hV1288.e.symm (xMp (jB λdg K=>(jB λdh bm=>(jB λbn bp=>(jB λS br=>(js [0,1,3,2] rfl (jh (λH=>H.mg) (jh (λH=>H.mg) (cZ λ_ _ _ _ g4 _ bs _=>?_))))))))));have h6:=g4.l.l.rd;refine jD (zF [0,1,2,3] rfl (pQ 4 rfl h6 K λ_ h7=>xFg 5 rfl h7 λ_ h8=>kB 6 rfl e2 (iG 7 rfl g4.r.bk e2 (zF [8,9] rfl (pQ 10 rfl h6 K λ_ h9=>iO 11 rfl h9 zP.f0 λ_ bt=>rK 12 rfl bt λ_ bu=>iG 13 rfl g4.l.r.bk e2 ?_)))));refine pQ 14 rfl bu bm λ_ bv=>aW 15 rfl bv λi5=>jE 16 rfl (jk (λH=>xBt bn bp _ aA i5) λbw=>qK (jE 17 rfl (jk (λH=>yI S br _ aA (H.a h8) i1 bw) λaf ag=>qK (jF9 18 rfl (aI bs (jh (λH=>H.um) ?_))))));refine jh (λH=>H.um) (jRi 0 K λ_ c0=>kD (jF9 19 rfl ?_));refine jfc (λH=>show ∀ v∈([af,ag]:List Vl),v.oneCell'=true from (oc ((H.s [0,3,4,1,2,5] rfl rfl).l 1 rfl).one (oc ((H.s [0,3,4,1,2,5] rfl rfl).l 2 rfl).one on))) λon_1=>js [0,3,4,1,2,5] rfl (jh (λH=>H.mg2) ?_);refine jSX (vs:=[af,ag]) (λH=>.inl ⟨sizeOf270,rfl,on_1⟩) (RPt.o c0) (rN K) (nel n0 n0) (λH=>λe q=>(Eo.agg (zP.m q.l.ld q.r.ld)).tn) rfl (kD (iT (cF (jo rfl (jLc (λH=>H.r 0 rfl) λi6=>xC 1 rfl ?_)))))
  refine qZ (λs7=>.v λT=>.st [(1,oK i),(4,T),(8,p),(9,oK N),(45,xA c.unknowns),(46,xA (z:Int))] [rw N0 2 zP 270 T s7,bx N [xA (z:Int)] 2,bx i [xA c.prime,xA c.unknowns,t] 130,rl 1 xF 2 p d]) ?_ (λs7 T=>?_)
  ·
   refine zK ?_;refine jl (λk4 s8=>.v λG=>.st [(97,xA (k4:Int)),(1,oK i),(4,G),(8,p),(9,oK N),(10,xA (d.length:Int)),(45,xA c.unknowns),(46,xA (z:Int)),(95,G),(96,xA ((((j.set ((d.length:Int)).toNat z9).set (x).toNat bi).set ((d.length:Int)).toNat (rowT.mk S.numbers S.bys)).length:Int))] [rw N0 2 zP 270 G s8,bx N [xA (z:Int)] 2,bx i [xA c.prime,xA c.unknowns,t] 130,rl 1 xF 2 p d]) ⟨_,ls⟩ (λ_ s8 _ q2 G=>?_) (λk4 _ s8 U _ G=>?_)
   ·have l4:=oU q2;refine xI (xW 1 rfl (kJ l4 (xN ?_)));exact jf ⟨_,ls⟩
   refine xI (xW 1 rfl (kO (xX U) (xY ?_)));have j4:=dS (Ah U) i6;have m2:=qG U i6;refine qE (jo rfl (jB λdi X=>(cZ λ_ _ _ _ g5 _ ah _=>?_)));have ai:=g5.rd;refine jI ai X λ_ h15=>jlA h15 λ_ h16=>aK rfl λ_=>jo rfl ?_;obtain⟨dj,dk,rfl,Y,aj⟩:=zP.o h16;refine zX (hv:=(λH=>oc (H.a Y).one (oc (H.a aj).one on))) e3 (qW (xC 3 rfl (xT ?_ ?_)))
   ·refine jB λdm c17=>(jB λdp c18=>(jB λdq ak=>(jB λz19 c20=>(jh (λH=>H.mg) (jh (λH=>H.mg) (cZ λ_ _ _ al g6 e4 Z _=>?_))))));have K3:=g6.l.l.bk;have K4:=g6.r.bk;refine jD (zF [0,1] rfl (rY 2 rfl K3 e2 (kB 3 rfl e2 (iG 4 rfl K4 e2 (zF [5,6] rfl (pQ 7 rfl ai c17 λ_ h19=>xFg (s:=λH w l=>(al.trans (Sm.mono (H.v w l) Z.2.2))) 8 rfl h19 λ_ h20=>kB 9 rfl e2 (iG 10 rfl K4 e2 (kB 11 rfl e2 ?_))))))));refine iG 12 rfl K3 e2 (iG 13 rfl g6.l.r.bk e2 (pQ 14 rfl Y c18 λ_ c9=>aW (s:=λH w l=>(al.trans (Sm.mono (H.v w l) Z.2.2))) 15 rfl c9 λ_=>jvz 16 rfl (λF H w l=>xBb F rfl rfl ak) (jE 17 rfl (jk (λH=>sR z19 c20 _ aA (zP.m (H.a (e4 Y)) (H.a (e4 aj))) i1 (H.a (e4 h20)) (kA ak)) λam an=>qK (jF9 18 rfl (aI Z (jh (λH=>H.um) ?_)))))));refine jh (λH=>H.um) (aI ah (jRi 0 X λ_ ca=>kD (jF9 19 rfl ?_)));refine jfc (λH=>show ∀ v∈([am,an]:List Vl),v.oneCell'=true from (oc ((H.s [0,4,5,1,2,3,6] rfl rfl).l 1 rfl).one (oc ((H.s [0,4,5,1,2,3,6] rfl rfl).l 2 rfl).one on))) λon_2=>js [0,4,5,1,2,3,6] rfl (jh (λH=>H.mg2) ?_);refine jSX (vs:=[am,an]) (λH=>.inl ⟨sizeOf270,rfl,on_2⟩) (RPt.o ca) (rN X) (nel n0 n0) (λH=>λe q=>(Eo.agg (zP.m q.l.ld q.r.ld)).tn) rfl (kD (iT (aH (xU m2 (xC 1 rfl (js [0,2,3,4] rfl ?_))))));exact jg ⟨_,ls⟩
   refine qJ (xU m2 (xC 1 rfl (js [1,2,3] rfl (aI ah ?_))));exact jg ⟨_,ls⟩
  refine xMt (jo rfl (jb 1 e3 (lQ (λH=>Eo.int j3) λ_=>jB λdr cb=>(js [4,0,1,2,3] rfl (jPL cb λds=>kZ 1 rfl (xU m1 (jo rfl ?_)))))));refine kD (js [0,1,3] rfl ?_);exact jg ⟨_,_,ls⟩
 refine oO (xS 4 rfl (js [1,0] rfl ?_));exact j2 (rt rfl) (rt rfl) ⟨_,_,lv⟩
def lJ (c:Int):Option Bool:= some ((c != 0))
theorem xCr {c} (r) (e:lJ c=some r) (d) (hN:HN B d) (f:xL c):CG B d 277 #[xA c] (.st (.bool r) λD=>D):=by
 unfold lJ at e
 revert r
 refine vM func277 [(0,xA c)] hN λr=>?_;refine xI (xM 1 rfl (xS 3 rfl ?_));exact qT (rt rfl) lv
def nW (c:rowT):Option Bool:= xG (ck ((c.numbers.length:Int) - 1)) λd=>xG (sl c.numbers 0 d) λe=>xG (qU e (λf=>lJ f)) λh=>some ((!h))
theorem xFq {e} (r) (i:nW e=some r) {c} (d) (hN:HN B d) (j:Bo B d (qS 2 zP) c e):CG B d 269 #[c] (.st (.bool r) λD=>D):=by
 unfold nW at i
 revert r
 refine vM func269 [(0,c)] hN λr=>?_;refine xI ?_;obtain⟨A,C,rfl,f,E⟩:=zP.o j;refine jX e2 λ_=>xM 1 rfl (xZ e2 (jb 0 e3 (xZ e2 (jb 0 e3 (jL f λ_=>jB λF p=>(gM p (jB λG t=>?_)))))));refine jC rfl rfl f t λ_ x=>jB λy z=>(jk (λH=>aX y z _ aA (H.a x) call277 (λI r h W K f0=>xCr r h W aA f0)) (xS 2 rfl ?_));exact qT (rt rfl) lv
def dH (c:rowT):Option Int:= xG (ck ((c.numbers.length:Int) - 1)) λd=>xG (ix c.numbers d) λe=>some e
theorem mW {e} (r) (h:dH e=some r) {c} (d) (hN:HN B d) (i:Bo B d (qS 2 zP) c e):CG B d 227 #[c] (.fa (xL r) <| .st (xA r) λD=>D):=by
 unfold dH at h
 revert r
 refine vM func227 [(0,c)] hN λr=>?_;refine xI ?_;obtain⟨y,z,rfl,f,A⟩:=zP.o i;refine jX e2 λ_=>xM 1 rfl (xZ e2 (jb 0 e3 (xZ e2 (jb 0 e3 (jL f λ_=>jB λC j=>(gM j (jB λE p=>?_)))))));refine jI f p λ_ t=>aP t λx=>xS 1 rfl ?_;exact qT (rt rfl) ⟨x,lv⟩
def bH (c:rowT):Option Bool:= oZ (σ:=Bool) (xG (nW (rowT.mk c.numbers c.bys)) λd=>if d then  xG (dH (rowT.mk c.numbers c.bys)) λe=>some (.nx (e != 0)) else  some (.nx false)) λf=>some f
theorem yV {e} (r) (i:bH e=some r) {c} (d) (hN:HN B d) (j:Bo B d (qS 2 zP) c e):CG B d 268 #[c] (.st (.bool r) λD=>D):=by
 unfold bH at i
 revert r
 refine vM func268 [(0,c)] hN λr=>?_;refine xI ?_;obtain⟨C,E,rfl,f,h⟩:=zP.o j;refine jX e2 λ_=>xW 1 rfl (qZ (λp=>.st [(2,.bool p)] []) ?_ (λ_=>?_))
 ·
  refine lP (aG 0 e3 (jB λt x=>(jk (λH=>xFq t x _ aA (zP.m (H.a f) (H.a h))) (jo rfl (fD 5 (λ_=>?_) (λ_=>?_))))))
  ·refine aG 0 e3 (jB λy z=>(jk (λH=>mW y z _ aA (zP.m (H.a f) (H.a h))) λA=>xC 3 rfl (js [] rfl ?_)));exact jf ls
  refine xC 5 rfl (js [] rfl ?_);exact jf ls
 refine nH ?_;exact qT (rt rfl) lv
def kU (c:List rowT):Option (rowT×Bool):= xG (zI c (λf=>bH f)) λd=>if (decide (d<0)) then some ((rowT.mk ([]) ([])),false) else xG (ix c d) λe=>some ((rowT.mk e.numbers e.bys),true)
theorem lU {i} (r) (y:kU i=some r) {d} (c) (hN:HN B c) (j:Bo B c (Sl 2 zP) d i):CG B c 226 #[d] (.v λe=>.v λf=>.fa (Bo B c (Sl 1 xF) e r.1.numbers) <| .fa (Bo B c (Sl 1 xF) f r.1.bys) <| .st (.tuple #[.agg #[e,f],.bool r.2]) λD=>D):=by
 unfold kU at y
 revert r
 refine vM func226 [(0,d)] hN λr=>?_;refine xI (aK rfl λ_=>xM 1 rfl (jo rfl (jB λz A=>(jk (λH=>jM z A _ aA (H.a j) call268 (λG r h W I K f0=>yV r h W aA f0)) λF=>xK 1 rfl (xC 2 rfl ?_)))));refine xT ?_ ?_
 ·refine xI (oV e5 (zX e3 (oE 1 rfl ?_)));exact nJ (λH=>H.s [] rfl rfl) (dA 0 e2) (rt rfl) ⟨_,_,Bo.snil,Bo.snil,lv⟩
 refine qR (jA 2 rfl (jB λL x=>(jI j x λ_ C=>jlA C (λ_ E=>?_))));obtain⟨M,N,rfl,p,t⟩:=zP.o E;refine zX (hv:=(λH=>oc (H.a p).one (oc (H.a t).one on))) e3 (xS 1 rfl ?_);exact nJ (λH=>H.s [] rfl rfl) (dA 0 e2) (rt rfl) ⟨_,_,p,t,lv⟩
def fA (c:B1):Option B1:= xG (fU (B1.mk c.prime c.unknowns c.list)) λd=>xG (kU d.1) λf=>if f.2 then xG (pN (0:Int) c.unknowns) λh=>some ((B1.mk c.prime c.unknowns ([(A8.mk h 1)]))) else xG (sl d.1 0 (d.2.length:Int)) λi=>oZ (σ:=List A8) (oM (λA (e:rowT) j=>xG (sl e.numbers 0 c.unknowns) λp=>xG (oH p) λt=>xG (dH (rowT.mk e.numbers e.bys)) λx=>xG (ap j ([(A8.mk t x)])) λy=>some (.go y)) i 0 []) λz=>some ((B1.mk c.prime c.unknowns z))
theorem xAu {c} (r) (T:fA c=some r) {h} (i) (hN:HN B i) (U:Bo B i (qS 3 oR) h c):CG B i 275 #[h] (.v λC=>.fa (xL r.prime) <| .fa (xL r.unknowns) <| .st (.agg #[xA r.prime,xA r.unknowns,C]) λD=>rl 2 xJ 169 C r.list::D):=by
 unfold fA at T
 revert r
 refine vM func275 [(0,h)] hN λr=>?_;refine xI ?_;obtain⟨W,rfl,j,p,X⟩:=oR.o U;refine jX e2 λF=>aK rfl λd=>qW (xZ e2 (jb 1 e3 (xZ e2 (jb 1 e3 (oV e5 (aK rfl λe=>zX e3 (qW ?_)))))));refine aG 2 e3 (jB λY Z=>?_);refine jk (λH=>tY Y Z _ aA (oR.m j p (H.a X))) λ_ _=>xK 5 rfl (jo rfl (cZ λ_ _ _ _ g1 _ E _=>(jB λz2 c2=>(jkB (λH=>lU z2 c2 _ H.hN (H.u g1.rd)) λv2 v3 h2 h3=>jA 3 rfl (aK rfl (λ_=>?_))))));refine zX (hv:=(λH=>oc (H.a h2).one (oc (H.a h3).one on))) e3 (xM 1 rfl (xC 1 rfl (xT ?_ ?_)))
 ·refine xI (xZ e2 (jb 4 e3 (jB λz3 c3=>?_)));refine jRM (R:=xF) (λw=>⟨rfl,by decide,rfl⟩) c3 (λ_=>?_);refine oV (hone:=(λH=>oc (H.l 0 rfl).one (oc rfl on))) e5 (jh (λH=>xJ.w zL H) (uL (λH=>El.agg) λv4=>xZ e2 (js [3,0,1,2,4,5] rfl (jW (hv:=(λH=>(H.l 1 rfl).one)) e3 (qW (aG 0 e3 (js [4,0,1,2,3,5] rfl ?_)))))));refine zX (hv:=(λH=>oc rfl (oc rfl (oc (H.l 2 rfl).one on)))) e3 (xTs (aI E ?_));exact j1m (λH=>H.s [3] rfl rfl) (dA 1 e2) ⟨_,j,p,lv⟩
 refine vT (jA 2 rfl (jLc (λH=>H.l 1 rfl) λ_=>jB λG c4=>(aI E (jT c4 λI=>jLc (λH=>H.r 0 rfl) λK=>xC 1 rfl ?_))));refine qZ (λs1=>.v λt=>.st [(2,oK d),(3,oK e)] [rl 2 xJ 169 t s1,bx e [xA c.prime,xA c.unknowns,t] 130,bx d [xA 0,xA 0,kW] 130]) ?_ (λ_ t=>?_)
 ·
  refine zK (jh (λH=>H.nl 2 xJ 169) (js [0,1,4,5,6] rfl ?_));refine jl (λL M=>.v λx=>.st [(38,xA (L:Int)),(1,oK F),(2,oK d),(3,oK e),(36,I),(37,xA (G.length:Int))] [rl 2 xJ 169 x M,rw N0 2 zP 270 I G,bx e [xA c.prime,xA c.unknowns,x] 130,bx d [xA 0,xA 0,kW] 130,bx F [xA c.prime,xA c.unknowns,W] 130]) ⟨_,ls⟩ (λ_ M _ q1 x=>?_) (λL _ _ f y1 _=>?_)
  ·have l1:=oU q1;refine xI (xW 1 rfl (kJ l1 (xN (js [0,2,3] rfl ?_))));exact jf ⟨_,ls⟩
  refine xI (xW 1 rfl (kO (xX f) (xY ?_)));have j1:=dS (Ah f) K;refine qE (js [1,0,2,3,4] rfl (cZ λ_ _ _ _ g2 _ P _=>(jI g2.rd y1 λ_ h4=>jlA h4 λ_ h5=>aK rfl (λ_=>?_))));obtain⟨v8,v9,rfl,y,N⟩:=zP.o h5;refine zX (hv:=(λH=>oc (H.a y).one (oc (H.a N).one on))) e3 (kD (jB λz5 c5=>(jB λz6 c6=>(jB λz7 c7=>(jB λz8 c8=>(js [0,2,4,1,3] rfl (jh (λH=>H.mg) (jh (λH=>H.mg) (cZ λ_ _ _ _ z A Q _=>?_)))))))));have O:=z.l.l.bk;refine jD (kB 0 rfl e2 (iG 1 rfl z.l.r.bk e2 (kB 2 rfl e2 (iG 3 rfl O e2 (kB 4 rfl e2 (iG 5 rfl z.r.bk e2 (jvC 6 rfl y c5 λ_ h8=>rY 8 rfl O e2 (jE 7 rfl (jk (λH=>qO z6 c6 _ aA (H.a (A h8))) (λ_=>?_))))))))));refine qK (jE 9 rfl (jk (λH=>mW z7 c7 _ aA (zP.m (H.a (A y)) (H.a (A N)))) λS=>qK (jE 10 rfl ?_)));refine oV (hone:=(λH=>oc (H.l 0 rfl).one (oc rfl on))) e5 (qK (jE 11 rfl (jh (λH=>xJ.w S H) (uL (λH=>El.agg) λ_=>qK (jF9 12 rfl (js [1,0,2] rfl (jPL c8 λal=>kD (jF9 13 rfl ?_))))))));refine xZ e2 (kD (jF9 14 rfl (aI Q (jh (λH=>H.um) (jh (λH=>H.um) (js [1,0,2,3,4] rfl (jW (hv:=(λH=>(H.l 3 rfl).one)) e3 (kD (iT (aH ?_))))))))));refine xU (qG f K) (xC 1 rfl (js [0,2,3,4] rfl (aI P (js [3,0,1,4,2] rfl ?_))));exact jg ⟨_,ls⟩
 refine oO (aG 1 e3 (js [2,0,1] rfl ?_));refine zX (hv:=(λH=>oc rfl (oc rfl (oc (H.l 1 rfl).one on)))) e3 (pM ?_);exact j1m (λH=>H.s [1] rfl rfl) (dA 0 e2) ⟨_,j,p,lv⟩
def bI (N:Nat) (d:Int) (c:Rel):Option B1:= xG (ck (c.arity+1)) λf=>xG (vA d f) λt=>oZ (σ:=List A8) (qM (λx h=>xG (qQ N d f (x:Int)) λi=>xG (sl i 0 c.arity) λj=>xG (ix i c.arity) λp=>xG (oJ c.tuples (λy=>bE y d (A8.mk j p))) λz=>if (!z) then xG (ap h ([(A8.mk j p)])) λA=>some (.go A) else some (.go h)) t.toNat 0 []) λB=>xG (fA (B1.mk d c.arity B)) λe=>some ((B1.mk e.prime e.unknowns e.list))
theorem xEc {d j} (r) (hR:bI N d j=some r) {C} (E) (hN:HN B E) (f:xL d) (A1:Bo B E (qS 2 oQ) C j):CG B E 261 #[xA d,C] (.v λI=>.fa (xL r.prime) <| .fa (xL r.unknowns) <| .st (.agg #[xA r.prime,xA r.unknowns,I]) λD=>rl 2 xJ 169 I r.list::D):=by
 unfold bI at hR
 revert r
 refine vM func261 [(0,xA d),(1,C)] hN λr=>?_;refine xI (jX e2 (λM=>?_));obtain⟨v2,rfl,i1,h1⟩:=oQ.o A1;refine jX e2 λb2=>aK rfl λi=>qW (jb 2 e3 (xZ e2 (jb 1 e3 (oV e5 (aK rfl λp=>zX e3 (dZ (jb 3 e3 ?_)))))));refine xZ e2 (jb 2 e3 (jB λz1 t=>(bN t (jB λO c2=>(jk (λH=>zU O c2 _ aA f (kA t)) λK=>xC 1 rfl (js [2,0,1,3] rfl (cZ λw1 X1 P _ g1 e1 Y _=>?_)))))));have x:=g1.bk;refine qZ (λs1=>.v λQ=>.st [(4,oK i),(5,oK p)] [rw P 2 xJ 169 Q s1,bx p [xA d,xA j.arity,Q] 130,bx i [xA 0,xA 0,kW] 130]) ?_ (λ_ _=>?_)
 ·
  refine zK (jh (λH=>H.nl 2 xJ 169) (jh (λH=>H.lw) (jh (λH=>H.wk) ?_)));refine jc (λR G=>.v λy=>.st [(18,xA (R:Int)),(2,oK M),(3,oK b2),(4,oK i),(5,oK p),(17,xA O)] [rw P 2 xJ 169 y G,bx p [xA d,xA j.arity,y] 130,bx i [xA 0,xA 0,kW] 130,bx M [xA d] 2]) ⟨_,ls⟩ (λ_ G _ e y=>?_) (λ_ R G e y=>?_)
  ·have l2:=vD e;refine xI (xW 1 rfl (kJ l2 (xN (js [0,1,2] rfl ?_))));exact jf ⟨_,ls⟩
  refine xI (xW 1 rfl (kO (qP e) (xY ?_)));have S:=vY e K;refine qE (xM 2 rfl (jb 3 e3 (xZ e2 (jbK x e2 (bN t (jo rfl (jB λz3 c3=>(jk (λH=>lC z3 c3 _ aA f (kA t) (dT e K)) λ_=>jo rfl ?_))))))));refine yD (jB λz4 c4=>(jB λz5 c5=>(cZ λ_ _ N3 _ g2 z L Z=>?_)));have T:=g2.ld;refine jD (zF [0] rfl (kB 1 rfl e2 (iG 2 rfl (x.lf z) e2 (jvC 3 rfl T c4 λv5 A=>zF [4] rfl (kB 5 rfl e2 (iG 6 rfl (x.lf z) e2 (pQ 7 rfl T c5 λ_ h4=>aW 8 rfl h4 (λU=>?_))))))));refine jvv 9 rfl (λF H w l=>xOx underlying169 zeroValue169 (λw=>by simp [sizeOf2,sizeOf58];rfl) F rfl rfl rfl rfl (oc (H.a A).one (oc rfl on)) rfl rfl) (jE 10 rfl (aK rfl λ_=>qK (jE 11 rfl ?_)));refine zX (hv:=(λH=>oc (H.a A).one (oc rfl on))) e3 (qK (iT (oO (xZ e2 (jbK (x.lf z) e2 (dJ e2 (jB λz6 c6=>(jk (λH=>zQ z6 c6 _ aA (H.a (z (e1 h1))) call273 (λa0 r h W X u0 f0=>xBa r h W aA f0 ((c1I (H.g 4 rfl).bk f).w X) ((xJ.b (H.g 0 rfl).bk (H.a A) U).w X))) (xC 1 rfl ?_)))))))));refine xT ?_ ?_
  ·refine lP (xZ e2 (jb 2 e3 (aG 0 e3 ?_)));refine jR1 (N1:=N3) n1 (λH=>Eo.agg (xJ.m (H.u A) U)) λ_=>jB λz7 c7=>(js [2,0,1,3,4,5] rfl (jh (λH=>H.up (λc h=>(L.2.2 c h))) (jP c7 λv6=>xZ e2 (js [2,0,1,3,4] rfl (jW (hv:=(λH=>(H.r 1 rfl).one)) e3 (dQ (xU S (jo rfl ?_))))))));refine kD (js [0,1,3,4] rfl (js [1,0,2,3] rfl ?_));refine jh (λH=>Z Ab.rw H (Ns.all ⟨n0,⟨n0,⟨n0,trivial⟩⟩⟩)) ?_;exact jg ⟨_,ls⟩
  refine qJ (xU S (xC 1 rfl (js [1,2,3,4] rfl (aI L (js [1,2,3,4] rfl ?_)))));exact jg ⟨_,ls⟩
 refine oO (aG 1 e3 (jB λz8 c8=>?_));refine jk (λH=>xAu z8 c8 _ aA (oR.m f i1 (H.r 0 rfl))) λv7 i3 i4=>js [3,0,1,2] rfl ?_;refine zX (hv:=(λH=>oc rfl (oc rfl (oc (H.l 1 rfl).one on)))) e3 (pM (js [0,1,3] rfl (aI Y ?_)));exact j1m (λH=>H.s [2] rfl rfl) (dA 1 e2) ⟨_,i3,i4,lv⟩
def lF (N:Nat) (c:A6) (d:A7):Option (B1×Int):= oZ (σ:=Bool) (xG (gA c.size) λt=>if (!t) then  some (.nx true) else  xG (vK d.cons (λx=>iZ N x (A6.mk c.size c.rels))) λp=>some (.nx p)) λy=>if y then some ((B1.mk 0 0 ([])),4) else oZ (σ:=List A8) (oM (λO (e:Con) z=>xG (ix c.rels e.rel) λA=>xG (bI N c.size A) λB=>oZ (σ:=List A8) (oM (λP (f:A8) C=>xG (pN (0:Int) d.vars) λD=>oZ (σ:=List Int) (oM (λE (h:Int) i=>xG (ix i h) λF=>xG (ix f.left (E:Int)) λG=>xG (ck (F+G)) λH=>xG (rm H c.size) λI=>some (.go (i.set (h).toNat I))) e.scope 0 D) λK=>xG (ap C ([(A8.mk K f.right)])) λL=>some (.go L)) B.list 0 z) λM=>some (.go M)) d.cons 0 []) λj=>if (decide (24<(j.length:Int))) then some ((B1.mk 0 0 ([])),3) else some ((B1.mk c.size d.vars j),0)
theorem xIk {i c} (r) (hR:lF N i c=some r) {v0 v1} (M) (hN:HN B M) (A0:Bo B M (qS 2 xB) v0 i) (A1:Bo B M (qS 2 xH) v1 c):CG B M 223 #[v0,v1] (.v λac=>.fa (xL r.1.prime) <| .fa (xL r.1.unknowns) <| .fa (xL r.2) <| .st (.tuple #[.agg #[xA r.1.prime,xA r.1.unknowns,ac],xA r.2]) λD=>rl 2 xJ 169 ac r.1.list::D):=by
 unfold lF at hR
 revert r
 refine vM func223 [(0,v0),(1,v1)] hN λr=>?_;refine xI ?_;obtain⟨v2,rfl,I,h1⟩:=xB.o A0;refine jX e2 (λx=>?_);obtain⟨t,rfl,i2,h2⟩:=xH.o A1;refine jX e2 λj=>aK rfl λd=>jo rfl (nE ?_);refine qZ (λs1=>.st [(2,oK x),(3,oK j),(4,oK d),(23,.bool s1)] [bx d [xA 0,xA 0,kW] 130,bx j [xA c.vars,t] 67,bx x [xA i.size,v2] 32]) ?_ (λ_=>?_)
 ·
  refine lP (xZ e2 (jb 2 e3 (jB λz1 c1=>(jk (λH=>uA z1 c1 _ aA I) (jA 2 rfl (fD 18 (λ_=>?_) (λ_=>?_)))))))
  ·refine xC 5 rfl ?_;exact jf ls
  refine xZ e2 (jb 1 e3 (dJ e2 (jB λz32 c2=>(jk (λH=>cH z32 c2 _ aA (H.a h2) call260 (λa0 r h W l1 u0 f0=>xFd r h W aA f0 ((xB.b (H.g 2 rfl).bk I (H.a h1)).w l1))) (xC 1 rfl ?_)))));exact jf ls
 refine eD (xT ?_ ?_)
 ·refine xI (oV e5 (zX e3 (oE 1 rfl ?_)));exact nJ (λH=>(H.nl 2 xJ 169).s [0] rfl rfl) (dA 0 e2) (rt rfl) ⟨_,xO,xO,uC,lv⟩
 refine qR (xZ e2 (jb 2 e3 (xZ e2 (jb 1 e3 (oV e5 (aK rfl λe=>zX e3 (dZ (xZ e2 (jb 2 e3 ?_)))))))));refine jL h2 λi3=>xC 1 rfl ?_;refine qZ (λs2=>.v λv3=>.st [(4,oK d),(6,oK e)] [rl 2 xJ 169 v3 s2,bx e [xA i.size,xA c.vars,v3] 130,bx d [xA 0,xA 0,kW] 130]) ?_ (λ_ v3=>?_)
 ·
  refine zK (jh (λH=>H.nl 2 xJ 169) ?_);refine jl (λy s3=>.v λO=>.st [(33,xA (y:Int)),(2,oK x),(3,oK j),(4,oK d),(6,oK e),(31,t),(32,xA (c.cons.length:Int))] [rl 2 xJ 169 O s3,bx e [xA i.size,xA c.vars,O] 130,bx d [xA 0,xA 0,kW] 130,bx j [xA c.vars,t] 67,bx x [xA i.size,v2] 32]) ⟨_,ls⟩ (λ_ s3 _ q1 O=>?_) (λy x2 s3 Q y1 O=>?_)
  ·have l2:=oU q1;refine xI (xW 1 rfl (kJ l2 (xN (js [0,1,2] rfl ?_))));exact jf ⟨_,ls⟩
  refine xI (xW 1 rfl (kO (xX Q) (xY ?_)));have j1:=dS (Ah Q) i3;refine qE (jI h2 y1 λ_ h3=>jlA h3 λ_ h4=>aK rfl (λK=>?_));obtain⟨v5,rfl,i4,h5⟩:=vS.o h4;refine zX (hv:=(λH=>oc rfl (oc (H.a h5).one on))) e3 (yD (jB λz2 c3=>(jB λz c4=>(js [0,5,1,2,3,4] rfl (jh (λH=>H.mg) (cZ λw1 X1 N1 ad g1 e1 S _=>?_))))));have K1:=g1.l.bk;have K2:=g1.r.bk;refine jD (kB 0 rfl e2 (iG 1 rfl K2 e2 (kB 2 rfl e2 (iG 3 rfl K2 e2 (kB 4 rfl e2 (iG 5 rfl K1 e2 (pQ 6 rfl h1 c3 λ_ h6=>xFg (s:=λH w l=>(ad.trans (Sm.mono (H.v w l) S.2.2))) 7 rfl h6 λ_ h7=>zF [11] rfl (jE 8 rfl ?_))))))));refine jk (λH=>xEc z c4 _ aA I (H.a (e1 h7))) λE _ _=>qK (jvv 9 rfl (λF H w l=>xSe F rfl rfl) (jE 10 rfl (jLc (λH=>H.l 0 rfl) λi5=>qK (iT (eD ?_)))));refine qZ (λs4=>.v λv7=>.st [(2,oK x),(3,oK j),(4,oK d),(6,oK e),(31,t),(32,xA (c.cons.length:Int)),(33,xA (y:Int))] [rl 2 xJ 169 v7 s4,bx e [xA i.size,xA c.vars,v7] 130,bx d [xA 0,xA 0,kW] 130,bx j [xA c.vars,t] 67]) ?_ (λs4 v7=>?_)
  ·
   refine zK ?_;refine jl (λG A=>.v λp=>.st [(48,xA (G:Int)),(2,oK x),(3,oK j),(4,oK d),(6,oK e),(8,oK K),(31,t),(32,xA (c.cons.length:Int)),(33,xA (y:Int)),(46,E),(47,xA (z.list.length:Int))] [rl 2 xJ 169 E z.list,rl 2 xJ 169 p A,bx e [xA i.size,xA c.vars,p] 130,bx d [xA 0,xA 0,kW] 130,bx j [xA c.vars,t] 67]) ⟨_,ls⟩ (λ_ A _ q2 p=>?_) (λG P A T y2 p=>?_)
   ·have l3:=oU q2;refine xI (xW 1 rfl (kJ l3 (xN (js [1,2,3,4] rfl ?_))));exact jf ⟨_,ls⟩
   refine xI (xW 1 rfl (kO (xX T) (xY ?_)));have j2:=dS (Ah T) i5;refine qE (cZ λ_ _ _ ba g2 e4 ae _=>(jI g2.ld y2 λ_ h8=>jlA h8 λ_ h9=>aK rfl (λb6=>?_)));obtain⟨v9,rfl,af,i6⟩:=xJ.o h9;refine zX (hv:=(λH=>oc (H.a af).one (oc rfl on))) e3 (yD (jB λz4 c5=>(js [0,4,1,2,3] rfl (jh (λH=>H.mg) (cZ λw2 X2 N2 ag g3 e6 U _=>?_)))));have K3:=g3.l.bk;refine jD ?_;refine jdp (f:=1) (ls:=#[true,true,true,true,true,true,true,false]) (.n λC=>.v λX=>.st [(2,oK x),(3,oK j),(4,oK d),(6,oK e),(8,oK K),(10,oK b6),(11,oK C),(31,t),(32,xA (c.cons.length:Int)),(33,xA (y:Int)),(46,E),(47,xA (z.list.length:Int)),(48,xA (G:Int)),(57,(.agg #[X,xA P.right]))] [bx C [kW,xA 0] 169,rl 1 xF 2 X z4,rl 2 xJ 169 p A,bx e [xA i.size,xA c.vars,p] 130,bx d [xA 0,xA 0,kW] 130]) (λC X=>?_) (λH1=>?_)
   ·
    refine jE 7 rfl ?_;refine zX (hv:=(λH=>oc (H.l 1 rfl).one (oc rfl on))) e3 (qK (iT (cF (xZ e2 (jbK ((K1.lf e4).lf e6) e2 (jL h5 λi7=>xC 1 rfl ?_))))));refine qZ (λs6=>.v λah=>.st [(2,oK x),(3,oK j),(4,oK d),(6,oK e),(8,oK K),(11,oK C),(31,t),(32,xA (c.cons.length:Int)),(33,xA (y:Int)),(46,E),(47,xA (z.list.length:Int)),(48,xA (G:Int))] [bx C [ah,xA P.right] 169,rl 1 xF 2 ah s6,rl 2 xJ 169 p A,bx e [xA i.size,xA c.vars,p] 130,bx d [xA 0,xA 0,kW] 130]) ?_ (λs6 _=>?_)
    ·
     refine zK ?_;refine jl (λk3 s7=>.v λL=>.st [(61,xA (k3:Int)),(2,oK x),(3,oK j),(4,oK d),(6,oK e),(8,oK K),(10,oK b6),(11,oK C),(31,t),(32,xA (c.cons.length:Int)),(33,xA (y:Int)),(46,E),(47,xA (z.list.length:Int)),(48,xA (G:Int)),(59,v5),(60,xA (x2.scope.length:Int))] [bx C [L,xA P.right] 169,rl 1 xF 2 L s7,rl 2 xJ 169 p A,bx e [xA i.size,xA c.vars,p] 130,bx d [xA 0,xA 0,kW] 130]) ⟨_,ls⟩ (λ_ s7 _ q3 L=>?_) (λk3 x4 s7 Y y3 L=>?_)
     ·have l4:=oU q3;refine xI (xW 1 rfl (kJ l4 (xN ?_)));exact jf ⟨_,ls⟩
     refine xI (xW 1 rfl (kO (xX Y) (xY ?_)));have j3:=dS (Ah Y) i7;refine qE (jo rfl (jI h5 y3 λ_ bb=>aP (s:=λH=>(ad.trans (Sm.mono (ba.trans (Sm.mono (ag.trans (Sm.mono H.sm U.2.2)) ae.2.2)) S.2.2))) bb λ_=>xC 2 rfl (jB λz5 c6=>(jB λz6 c7=>(jB λz7 c8=>(jB λz8 c9=>(jh (λH=>H.mg) ?_)))))));refine cZ λ_ _ _ bc g4 e7 ai _=>?_;have K4:=g4.l.bk;refine jD (kB 0 rfl e2 (iG 1 rfl K4 e2 (zF [2] rfl (kB 3 rfl e2 (iG 4 rfl K4 e2 (zF [5] rfl (pQ 6 rfl g4.r.ld c6 λ_ bd=>aW 7 rfl bd λ_=>kB 8 rfl e2 (iG 9 rfl (K3.lf e7) e2 ?_))))))));refine zF [10] rfl (pQ 11 rfl af c7 λ_ be=>aW (s:=λH w l=>(ag.trans (Sm.mono (bc.trans (Sm.mono (H.v w l) ai.2.2)) U.2.2))) 12 rfl be λ_=>jvz 13 rfl (λF H w l=>wH F rfl rfl c8) (kB 14 rfl e2 (iG 15 rfl (((K2.lf e4).lf e6).lf e7) e2 (jvz 16 rfl (λF H w l=>xEk F rfl rfl c9) (jF9 17 rfl (aI ai (jh (λH=>H.um) (jRl 1 c6 (λ_ bf=>?_)))))))));refine kD (jF9 18 rfl (js [1,0,2,3,4] rfl (jh (λH=>H.lw) (jS bf (dL c6) (λH=>Eo.int (xGs c9 (kA c8) I)) rfl (jh (λH=>H.tl) (kD (iT (aH (xU (qG Y i7) (jo rfl ?_))))))))));refine kD (js [1,0,2,3,4] rfl ?_);exact jg ⟨_,ls⟩
    refine xMt (xZ e2 (jb 3 e3 (aG 0 e3 (js [1,0,2,3,4] rfl (jh (λH=>xJ.w i6 H) (uL (λH=>El.agg) λ_=>jB λz9 bg=>(js [2,0,1,3,4] rfl (jPL bg λcn=>xZ e2 ?_))))))));refine js [2,0,1,3] rfl (jW (hv:=(λH=>(H.l 1 rfl).one)) e3 (dQ (xU (qG T i5) (xC 1 rfl (js [0,1,3] rfl (aI U (jh (λH=>H.um) (aI ae (js [0,4,3,5,2] rfl ?_)))))))));exact jg ⟨_,ls⟩
   refine jdp (f:=2) (ls:=#[true,true,true,true,true,false,true,false]) (.n λb8=>.v λZ=>.st [(2,oK x),(3,oK j),(4,oK d),(6,oK e),(8,oK K),(10,oK b6),(11,oK b8),(31,t),(32,xA (c.cons.length:Int)),(33,xA (y:Int)),(46,E),(47,xA (z.list.length:Int)),(48,xA (G:Int)),(54,Z),(56,xA P.right)] [bx b8 [kW,xA 0] 169,rl 1 xF 2 Z z4,rl 2 xJ 169 p A,bx e [xA i.size,xA c.vars,p] 130,bx d [xA 0,xA 0,kW] 130]) (λb8 Z=>?_) (λH2=>?_)
   ·refine jE 5 rfl ?_;refine oV (hone:=(λH=>oc (H.l 1 rfl).one (oc rfl on))) e5 (qK ?_);exact H1 ⟨_,_,ls⟩
   refine kB 0 rfl e2 (iG 1 rfl g3.r.bk e2 (kB 3 rfl e2 (iG 4 rfl K3 e2 (eG (λH=>H) 2 6 rfl rfl ?_ ?_))))
   ·
    refine jRM (R:=xF) (λw=>⟨rfl,by decide,rfl⟩) c5 λco=>qK (eG (λH=>H) 5 6 rfl rfl ?_ ?_)
    ·refine oV (hone:=(λH=>oc (H.l 0 rfl).one (oc rfl on))) e5 (qK (jE 6 rfl (aK rfl λb9=>qK ?_)));exact H1 ⟨_,_,ls⟩
    refine aK rfl λcp=>qK ?_;exact H2 ⟨_,_,ls⟩
   refine aK rfl λcq=>qK (jE 2 rfl ?_);refine jRM (R:=xF) (λw=>⟨rfl,by decide,rfl⟩) c5 λcr=>qK (js [1,0,2,3,4] rfl ?_);exact H2 ⟨_,_,ls⟩
  refine aH (xU (qG Q i3) (xC 1 rfl (aI S (jh (λH=>H.um) (js [2,3,4,5,1] rfl ?_)))));exact jg ⟨_,ls⟩
 refine cF (xZ e2 (jb 1 e3 (jLc (λH=>H.l 0 rfl) λ_=>xC 1 rfl (xT ?_ ?_))))
 ·refine xI (oV e5 (js [2,0,1] rfl (zX e3 (oE 1 rfl ?_))));exact nJ (λH=>(H.nl 2 xJ 169).s [0] rfl rfl) (dA 0 e2) (rt rfl) ⟨_,xO,xO,lL,lv⟩
 refine qR (aG 1 e3 (js [2,0,1] rfl ?_));refine zX (hv:=(λH=>oc rfl (oc rfl (oc (H.l 1 rfl).one on)))) e3 (xS 1 rfl ?_);exact nJ (λH=>H.s [1] rfl rfl) (dA 0 e2) (rt rfl) ⟨_,I,i2,xO,lv⟩
def rQ (N:Nat) (c:A6) (d:A7):Option (B1×Int):= xG (kS (A6.mk c.size c.rels) (A7.mk d.vars d.cons)) λf=>if (!f) then some ((B1.mk 0 0 ([])),1) else xG (lF N (A6.mk c.size c.rels) (A7.mk d.vars d.cons)) λe=>some ((B1.mk e.1.prime e.1.unknowns e.1.list),e.2)
theorem xIa {h i} (r) (y:rQ N h i=some r) {d e} (c) (hN:HN B c) (z:Bo B c (qS 2 xB) d h) (A:Bo B c (qS 2 xH) e i):CG B c 153 #[d,e] (.v λf=>.fa (xL r.1.prime) <| .fa (xL r.1.unknowns) <| .fa (xL r.2) <| .st (.tuple #[.agg #[xA r.1.prime,xA r.1.unknowns,f],xA r.2]) λD=>rl 2 xJ 169 f r.1.list::D):=by
 unfold rQ at y
 revert r
 refine vM func153 [(0,d),(1,e)] hN λr=>?_;refine xI ?_;obtain⟨O,rfl,j,p⟩:=xB.o z;refine jX e2 (λ_=>?_);obtain⟨M,rfl,t,x⟩:=xH.o A;refine jX e2 λ_=>aK rfl λ_=>xK 1 rfl (aG 2 e3 (aG 1 e3 (jB λC E=>?_)));refine jk (λH=>fM C E _ aA (xB.m j (H.a p)) (xH.m t (H.a x))) (xC 1 rfl (xT ?_ ?_))
 ·refine xI (oV e5 (zX e3 (oE 1 rfl ?_)));exact nJ (λH=>(H.nl 2 xJ 169).s [0] rfl rfl) (dA 0 e2) (rt rfl) ⟨_,xO,xO,zL,lv⟩
 refine qR (aG 2 e3 (aG 1 e3 (jB λF G=>?_)));refine jk (λH=>xIk F G _ aA (xB.m j (H.a p)) (xH.m t (H.a x))) λP I K L=>jA 2 rfl (js [1,0,2,3] rfl ?_);refine zX (hv:=(λH=>oc rfl (oc rfl (oc (H.l 1 rfl).one on)))) e3 (xS 1 rfl ?_);exact nJ (λH=>H.s [1] rfl rfl) (dA 0 e2) (rt rfl) ⟨_,I,K,L,lv⟩
def jV (c e:Int) (d:A8):Option Bool:= oZ (σ:=Bool) (xG (aL c d.left e) λf=>if f then  xG (dX c d.right) λh=>some (.nx h) else  some (.nx false)) λi=>some i
theorem xFv {c d i} (r) (p:jV c d i=some r) {e} (f) (hN:HN B f) (h:xL c) (j:xL d) (t:Bo B f (qS 2 xJ) e i):CG B f 264 #[xA c,xA d,e] (.st (.bool r) λD=>D):=by
 unfold jV at p
 revert r
 refine vM func264 [(0,xA c),(1,xA d),(2,e)] hN λr=>?_;refine xI ?_;obtain⟨G,rfl,x,y⟩:=xJ.o t;refine jX e2 λ_=>xW 1 rfl (qZ (λz=>.st [(6,.bool z)] []) ?_ (λ_=>?_))
 ·
  refine lP (jo rfl (xZ e2 (jb 0 e3 (jo rfl (jB λA C=>(jk (λH=>mZ A C _ aA h (H.a x) j) (jo rfl (fD 12 (λ_=>?_) (λ_=>?_)))))))))
  ·refine jo rfl (xZ e2 (jb 0 e3 (jB λE F=>(jk (λH=>tR E F _ aA h y) (xC 2 rfl (js [] rfl ?_))))));exact jf ls
  refine xC 6 rfl (js [] rfl ?_);exact jf ls
 refine nH ?_;exact qT (rt rfl) lv
def iK (c:A8) (d:B1):Option Bool:= xG (jV d.prime d.unknowns (A8.mk c.left c.right)) λe=>some ((!e))
theorem xBv {f h} (r) (p:iK f h=some r) {d e} (c) (hN:HN B c) (t:Bo B c (qS 2 xJ) d f) (i:Bo B c (Pt 3 oR) e h):CG B c 263 #[d,e] (.st (.bool r) λD=>D):=by
 unfold iK at p
 revert r
 refine vM func263 [(0,d),(1,e)] hN λr=>?_;refine xI ?_;obtain⟨G,rfl,x,y⟩:=xJ.o t;refine jX e2 λ_=>xM 1 rfl (aF i oR.f0 λ_ j=>aP j λz=>aF i oR.f1 λ_ A=>aP A λC=>aG 0 e3 (jB λE F=>?_));refine jk (λH=>xFv E F _ aA z C (xJ.m (H.a x) y)) (xS 2 rfl ?_);exact qT (rt rfl) lv
def kG (c:List A8) (d:A8->Option Bool):Option Int:= oZ (σ:=Unit) (oM (λe (f:A8) s=>match s with | _=>xG (d f) λh=>if h then some (.ret ((e:Int))) else some (.go ())) c 0 ()) λ_=>some ((-1))
theorem lY {i j} (r) (F:kG i j=some r) {f c e} (d) (hN:HN B d) (p:Bo B d (Sl 2 xJ) f i) (A:∀ args w,(callFunc c args).run prog w= .ok (.enter c args) w) (C:∀ (t:A8) (r:Bool),j t=some r->∀ W,Below d.heap.size d W->∀ (x:Vl),Bo (All W) W (qS 2 xJ) x t->Calls prog c ([x]++e:List Vl).toArray W (Gt (All W) W [] (.st (.bool r) λD=>D))):CG B d 276 #[f,.func (.func c) #[] e.toArray] (.fa (xL r) <| .st (xA r) λD=>D):=by
 unfold kG at F
 revert r
 refine vM func276 [(0,f),(1,.func (.func c) #[] e.toArray)] hN λr=>?_;refine xI (xK 1 rfl (jo rfl (jL p λy=>xC 1 rfl (qZ (λ_=>.st [] []) ?_ (λ_=>?_)))))
 ·
  refine zK (jl (λz _=>.st [(8,xA (z:Int)),(0,f),(1,.func (.func c) #[] e.toArray),(7,xA (i.length:Int))] []) ls (λ_ _ _ G=>?_) (λz _ _ h I=>?_))
  ·have K:=oU G;refine xI (xW 1 rfl (kJ K (xN ?_)));exact jf ls
  refine xI (xW 1 rfl (kO (xX h) (xY (qE (xM 2 rfl (jA 3 rfl (jI p I λ_ E=>jlA E (λ_ L=>?_))))))));refine jB λM N=>?_;refine jkV A e2 (λH=>C _ M N _ H.bl _ (H.a L)) (kD (xT ?_ ?_))
  ·refine xI (oY 2 rfl (fZ (zR (fH (lD ?_)))));exact qT (rt rfl) ⟨(dS (Ah h) y),lv⟩
  refine qJ (xU (qG h y) (xC 1 rfl ?_));exact jg ls
 refine oO (xS 1 rfl ?_);exact qT (rt rfl) ⟨bC,lv⟩
def vV (c:List A8) (d:A8->Option Bool):Option Bool:= xG (kG c d) λe=>some ((decide (0<=e)))
theorem iX {j p} (r) (z:vV j p=some r) {i c f} (d) (hN:HN B d) (A:Bo B d (Sl 2 xJ) i j) (x:∀ args w,(callFunc c args).run prog w= .ok (.enter c args) w) (y:∀ (e:A8) (r:Bool),p e=some r->∀ W,Below d.heap.size d W->∀ (t:Vl),Bo (All W) W (qS 2 xJ) t e->Calls prog c ([t]++f:List Vl).toArray W (Gt (All W) W [] (.st (.bool r) λD=>D))):CG B d 262 #[i,.func (.func c) #[] f.toArray] (.st (.bool r) λD=>D):=by
 unfold vV at z
 revert r
 refine vM func262 [(0,i),(1,.func (.func c) #[] f.toArray)] hN λr=>?_;refine xI (xM 1 rfl (jA 2 rfl (jB λC E=>(jk (λH=>lY C E _ aA (H.a A) x (λe r h W F=>y e r h W (H.bl.trans (F.mono H.fr.size)))) λG=>xS 2 rfl ?_))));exact qT (rt rfl) lv
def eH (c:B1):Option Bool:= oZ (σ:=Bool) (xG (gA c.prime) λd=>if d then  xG (aU c.unknowns 1 12) λe=>if e then  if (decide ((c.list.length:Int)<=24)) then  xG (vV c.list (λf=>iK f (B1.mk c.prime c.unknowns c.list))) λh=>some (.nx (!h)) else  some (.nx false) else  some (.nx false) else  some (.nx false)) λi=>some i
theorem uO {f} (r) (p:eH f=some r) {c} (d) (hN:HN B d) (t:Bo B d (qS 3 oR) c f):CG B d 224 #[c] (.st (.bool r) λD=>D):=by
 unfold eH at p
 revert r
 refine vM func224 [(0,c)] hN λr=>?_;refine xI ?_;obtain⟨I,rfl,i,j,e⟩:=oR.o t;refine jX e2 λ_=>xW 1 rfl (qZ (λx=>.st [(2,.bool x)] []) ?_ (λ_=>?_))
 ·
  refine lP (xZ e2 (jb 0 e3 (jB λy z=>(jk (λH=>uA y z _ aA i) (jo rfl (fD 6 (λ_=>?_) (λ_=>?_)))))))
  ·
   refine xZ e2 (jb 0 e3 (jB λA C=>(jk (λH=>bP A C _ aA j zL xYi) (jA 2 rfl (fD 11 (λ_=>?_) (λ_=>?_))))))
   ·
    refine xZ e2 (jb 0 e3 (jL e λ_=>jA 3 rfl (fD 17 (λ_=>?_) (λ_=>?_))))
    ·refine xZ e2 (jb 0 e3 (dJ e2 (jB λE F=>(jk (λH=>iX E F _ aA (H.a e) call263 (λK r h W G L f0=>xBv r h W aA f0 ((oR.b (H.g 0 rfl).bk i j (H.a e)).w G))) (xC 3 rfl (js [] rfl ?_))))));exact jf ls
    refine xC 7 rfl (js [] rfl ?_);exact jf ls
   refine xC 13 rfl (js [] rfl ?_);exact jf ls
  refine xC 18 rfl (js [] rfl ?_);exact jf ls
 refine nH ?_;exact qT (rt rfl) lv
def eN (c:B1):Option ((List Int)×Int):= xG (eH (B1.mk c.prime c.unknowns c.list)) λh=>if (!h) then some ([],1) else xG (fU (B1.mk c.prime c.unknowns c.list)) λd=>xG (kU d.1) λi=>if i.2 then some ([],6) else xG (pN (0:Int) c.unknowns) λj=>oZ (σ:=List Int) (oM (λp (e:Int) f=>xG (ix d.1 (p:Int)) λt=>xG (dH t) λx=>xG (ix f e) λz=>some (.go (f.set (e).toNat x))) d.2 0 j) λy=>some (y,0)
theorem xDt {y} (r) (P:eN y=some r) {e} (f) (hN:HN B f) (Q:Bo B f (qS 3 oR) e y):CG B f 154 #[e] (.v λp=>.fa (xL r.2) <| .st (.tuple #[p,xA r.2]) λD=>rl 1 xF 2 p r.1::D):=by
 unfold eN at P
 revert r
 refine vM func154 [(0,e)] hN λr=>?_;refine xI ?_;obtain⟨v1,rfl,z,A,C⟩:=oR.o Q;refine jX e2 λ_=>xK 2 rfl (aG 0 e3 (jB λL S=>?_));refine jk (λH=>uO L S _ aA (oR.m z A (H.a C))) (xC 1 rfl (xT ?_ ?_))
 ·refine xI (oE 2 rfl (jh (λH=>H.nl 1 xF 2) (js [0] rfl ?_)));exact j2 (rt rfl) (rt rfl) ⟨_,zL,lv⟩
 refine qR (aG 0 e3 (jB λh T=>?_));refine jk (λH=>tY h T _ aA (oR.m z A (H.a C))) λU E=>xK 5 rfl (jo rfl (cZ λw1 X1 N1 _ W _ t _=>?_));have F:=W.rd;refine jB λX Y=>(jkB (λH=>lU X Y _ H.hN (H.u F)) λv4 v5 Z h4=>jA 3 rfl (aK rfl (λ_=>?_)));refine zX (hv:=(λH=>oc (H.a Z).one (oc (H.a h4).one on))) e3 (xM 1 rfl (xC 1 rfl (xT ?_ ?_)))
 ·refine xI (oE 2 rfl (aI t (jh (λH=>H.nl 1 xF 2) (js [0] rfl ?_))));exact j2 (rt rfl) (rt rfl) ⟨_,sS,lv⟩
 refine qR (xZ e2 (jb 2 e3 (jB λz3 c4=>?_)));refine jRM (R:=xF) (λw=>⟨rfl,by decide,rfl⟩) c4 λv6=>xK 1 rfl (jo rfl (jLc (λH=>H.l 2 rfl) λG=>xC 1 rfl (qZ (λs1=>.v λi=>.st [(8,i)] [rl 1 xF 2 i s1]) ?_ (λ_ i=>?_))))
 ·
  refine zK (js [0,2] rfl ?_);refine jl (λI j=>.v λc=>.st [(30,xA (I:Int)),(4,U),(8,c),(28,E),(29,xA (h.2.length:Int))] [rl 1 xF 2 c j,rl 1 xF 2 E h.2]) ⟨_,ls⟩ (λ_ j _ q1 c=>?_) (λI x1 j d y1 c=>?_)
  ·have l1:=oU q1;refine xI (xW 1 rfl (kJ l1 (xN (js [0] rfl ?_))));exact jf ⟨_,ls⟩
  refine xI (xW 1 rfl (kO (xX d) (xY ?_)));have j1:=dS (Ah d) G;refine qE (jo rfl (js [1,0] rfl (cZ λ_ _ _ M g2 e1 x _=>(jI g2.ld y1 λ_ h5=>aP h5 λ_=>jA 2 rfl (lT (jA 4 rfl (jB λz4 c5=>(jI F c5 (λ_ h6=>?_)))))))));refine jlA (s:=λH=>(M.trans (Sm.mono H.sm x.2.2))) h6 λ_ h7=>jB λz5 c6=>(jk (λH=>mW z5 c6 _ aA (H.a (e1 h7))) λN=>jB λz6 K=>(jRl 0 K λ_ O=>jh (λH=>H.lw) (jS O (dL K) (λH=>Eo.int N) rfl (jh (λH=>H.tl) (dQ (xU (qG d G) (jo rfl ?_)))))));refine kD (aI x (js [1,0] rfl ?_));exact jg ⟨_,ls⟩
 refine oO (xS 3 rfl (aI t (js [1] rfl ?_)));exact j2 (rt rfl) (rt rfl) ⟨_,xO,lv⟩
def fN (c:B1):Option ((List Int)×Int):= xG (eH (B1.mk c.prime c.unknowns c.list)) λe=>if (!e) then some ([],1) else xG (fU (B1.mk c.prime c.unknowns c.list)) λf=>xG (kU f.1) λd=>if (!d.2) then some ([],6) else xG (dH (rowT.mk d.1.numbers d.1.bys)) λh=>xG (mX h) λi=>xG (iC (rowT.mk d.1.numbers d.1.bys) c.prime i) λj=>some (j.bys,0)
theorem xCv {t} (r) (K:fN t=some r) {d} (e) (hN:HN B e) (L:Bo B e (qS 3 oR) d t):CG B e 155 #[d] (.v λj=>.fa (xL r.2) <| .st (.tuple #[j,xA r.2]) λD=>rl 1 xF 2 j r.1::D):=by
 unfold fN at K
 revert r
 refine vM func155 [(0,d)] hN λr=>?_;refine xI ?_;obtain⟨Z,rfl,f,x,y⟩:=oR.o L;refine jX e2 λ_=>xK 2 rfl (aG 0 e3 (jB λC M=>?_));refine jk (λH=>uO C M _ aA (oR.m f x (H.a y))) (xC 1 rfl (xT ?_ ?_))
 ·refine xI (oE 2 rfl (jh (λH=>H.nl 1 xF 2) (js [0] rfl ?_)));exact j2 (rt rfl) (rt rfl) ⟨_,zL,lv⟩
 refine qR (aG 0 e3 (jB λN O=>?_));refine jk (λH=>tY N O _ aA (oR.m f x (H.a y))) λ_ _=>xM 5 rfl (jo rfl (cZ λ_ _ _ _ P _ p _=>(jB λQ R=>(jkB (λH=>lU Q R _ H.hN (H.u P.rd)) λv2 v3 h i=>jA 3 rfl (aK rfl (λ_=>?_))))));refine zX (hv:=(λH=>oc (H.a h).one (oc (H.a i).one on))) e3 (xK 1 rfl (xC 2 rfl (xT ?_ ?_)))
 ·refine xI (oE 2 rfl (aI p (jh (λH=>H.nl 1 xF 2) (js [0] rfl ?_))));exact j2 (rt rfl) (rt rfl) ⟨_,sS,lv⟩
 refine xY (jB λS T=>(jB λU W=>(jB λX Y=>(js [0,2,1] rfl (jh (λH=>H.mg) (cZ λ_ _ _ _ z c E _=>?_))))));have A:=z.l.bk;refine jD (rY 0 rfl A e2 (kB 1 rfl e2 (iG 2 rfl z.r.bk e2 (rY 3 rfl A e2 (jE 4 rfl (jk (λH=>mW S T _ aA (zP.m (H.a (c h)) (H.a (c i)))) λG=>qK (jE 5 rfl (jk (λH=>xBt U W _ aA G) λI=>qK ?_))))))));refine jE 6 rfl (jk (λH=>yI X Y _ aA (zP.m (H.a (c h)) (H.a (c i))) f I) λ_ v4=>qK (jvv 7 rfl (λF H w l=>xSe F rfl rfl) (zF [8,9] rfl (iT (nH (aI E (jh (λH=>H.um) (aI p (js [4] rfl ?_)))))))));exact j2 (rt rfl) (rt rfl) ⟨_,xO,lv⟩
def cM (N:Nat) (e:A6) (f:A7):Option (B0×Int):= xG (rQ N (A6.mk e.size e.rels) (A7.mk f.vars f.cons)) λc=>if (c.2 != 0) then some ((B0.mk 0 ([]) ([]) ([]) ([])),c.2) else xG (eN (B1.mk c.1.prime c.1.unknowns c.1.list)) λd=>if (d.2==0) then some ((B0.mk 0 d.1 ([]) ([]) ([])),0) else xG (fN (B1.mk c.1.prime c.1.unknowns c.1.list)) λh=>some ((B0.mk 3 ([]) ([]) ([]) h.1),0)
theorem wU {i j} (r) (y:cM N i j=some r) {d e} (c) (hN:HN B c) (z:Bo B c (qS 2 xB) d i) (A:Bo B c (qS 2 xH) e j):CG B c 95 #[d,e] (.v λf=>.v λh=>.fa (xL r.1.kind) <| .fa (xL r.2) <| .st (.tuple #[.agg #[xA r.1.kind,f,kW,kW,h],xA r.2]) λD=>rl 1 xF 2 f r.1.values::rl 1 xF 2 h r.1.numbers::D):=by
 unfold cM at y
 revert r
 refine vM func95 [(0,d),(1,e)] hN λr=>?_;refine xI ?_;obtain⟨R,rfl,C,E⟩:=xB.o z;refine jX e2 (λ_=>?_);obtain⟨Q,rfl,F,G⟩:=xH.o A;refine jX e2 λ_=>aK rfl λ_=>xM 1 rfl (aG 2 e3 (aG 1 e3 (jB λI K=>?_)));refine jk (λH=>xIa I K _ aA (xB.m C (H.a E)) (xH.m F (H.a G))) λS p t L=>jA 3 rfl (aK rfl (λ_=>?_));refine zX (hv:=(λH=>oc rfl (oc rfl (oc (H.l 1 rfl).one on)))) e3 (xK 1 rfl (xC 2 rfl (xT ?_ ?_)))
 ·refine xI (oV e5 (jo rfl (js [2,0,1,3,4] rfl (zX e3 (oE 1 rfl ?_)))));exact nJ (λH=>((H.nl 1 xF 2).nl 1 xF 2).s [1,0] rfl rfl) (dA 0 e2) (rt rfl) ⟨_,_,xO,L,lv⟩
 refine vT (aG 0 e3 (jB λx M=>?_));refine jk (λH=>xDt x M _ aA (oR.m p t (H.l 1 rfl))) λT _=>xM 5 rfl (xC 2 rfl (xT ?_ ?_))
 ·refine xI (jo rfl (jk (λH=>iV (H.l 0 rfl).one _ H.hN) (js [3,0,1,2,4,5] rfl ?_)));refine zX (hv:=(λH=>oc rfl (oc (H.l 1 rfl).one (oc rfl (oc rfl (oc rfl on)))))) e3 (oE 1 rfl ?_);exact nJ (λH=>(H.nl 1 xF 2).s [2,0] rfl rfl) (dA 0 e2) (rt rfl) ⟨_,_,xO,xO,lv⟩
 refine qR (aG 1 e3 (jB λO P=>?_));refine jk (λH=>xCv O P _ aA (oR.m p t (H.l 2 rfl))) λU _=>xM 5 rfl (jo rfl ?_);refine oV (hone:=(λH=>oc rfl (oc (H.l 0 rfl).one on))) e5 (js [4,0,1,2,3,5,6] rfl ?_);refine zX (hv:=(λH=>oc rfl (oc rfl (oc rfl (oc rfl (oc (H.l 1 rfl).one on)))))) e3 (xS 1 rfl ?_);exact nJ (λH=>(H.nl 1 xF 2).s [0,2] rfl rfl) (dA 0 e2) (rt rfl) ⟨_,_,lL,xO,lv⟩
def rS (N:Nat) (c:A6) (d:A7) (j:Int) (e:Op):Option (B0×Int):= if (j==1) then xG (ix e.table 0) λt=>xG (dD N (A6.mk c.size c.rels) (A7.mk d.vars d.cons) t) λp=>some ((B0.mk p.1.kind p.1.values ([]) ([]) ([])),p.2) else if (j==2) then xG (bL N (A6.mk c.size c.rels) (A7.mk d.vars d.cons) (Op.mk e.arity e.table)) λh=>some ((B0.mk h.1.kind h.1.values h.1.arcs ([]) ([])),h.2) else if (j==3) then xG (dF N (A6.mk c.size c.rels) (A7.mk d.vars d.cons) (Op.mk e.arity e.table)) λf=>some ((B0.mk f.1.kind f.1.values f.1.arcs f.1.pairs ([])),f.2) else xG (cM N (A6.mk c.size c.rels) (A7.mk d.vars d.cons)) λi=>some ((B0.mk i.1.kind i.1.values ([]) ([]) i.1.numbers),i.2)
theorem xIu {G I d K} (r) (S:rS N G I d K=some r) {j p t} (c) (hN:HN B c) (T:Bo B c (qS 2 xB) j G) (U:Bo B c (qS 2 xH) p I) (ac:xL d) (A3:Bo B c (qS 2 vU) t K):CG B c 47 #[j,p,xA d,t] (.v λz=>.v λA=>.v λC=>.v λE=>.fa (xL r.1.kind) <| .fa (xL r.2) <| .st (.tuple #[.agg #[xA r.1.kind,z,A,C,E],xA r.2]) λD=>ro B (V:=(Sl 1 xF)) z r.1.values::rl 3 oD 225 A r.1.arcs::rl 3 xP 165 C r.1.pairs::rl 1 xF 2 E r.1.numbers::D):=by
 unfold rS at S
 revert r
 refine vM func47 [(0,j),(1,p),(2,xA d),(3,t)] hN λr=>?_;refine xI ?_;obtain⟨v2,rfl,e,f⟩:=xB.o T;refine jX e2 (λ_=>?_);obtain⟨ad,rfl,h,i⟩:=xH.o U;refine jX e2 (λ_=>?_);obtain⟨v4,rfl,L,x⟩:=vU.o A3;refine jX e2 λ_=>aK rfl λ_=>xK 1 rfl (jo rfl (xJd (xC 2 rfl (xT ?_ ?_))))
 ·refine a_s (jB λz1 W=>(jB λX Y=>(js [1,2,3,0] rfl (jh (λH=>H.mg) (jh (λH=>H.mg) (cZ λ_ _ _ O y M F _=>(jD (rY 0 rfl y.r.bk e2 (rY 1 rfl y.l.r.bk e2 (kB 2 rfl e2 ?_))))))))));refine iG 3 rfl y.l.l.bk e2 (pQ 4 rfl x W λ_ Z=>aW (s:=λH w l=>(O.trans (Sm.mono (H.v w l) F.2.2))) 5 rfl Z λi4=>jE 6 rfl ?_);refine jk (λH=>yT X Y _ aA (xB.m e (H.a (M f))) (xH.m h (H.a (M i))) i4) λv5 i5 i6=>qK (zF [7,8] rfl (jE 9 rfl (js [1,0] rfl ?_)));refine zX (hv:=(λH=>oc rfl (oc (H.l 1 rfl).one (oc rfl (oc rfl (oc rfl on)))))) e3 (qK (zF [10] rfl (iT (xLg (aI F (jh (λH=>H.um) (jh (λH=>H.um) (js [4,0,1,2,3] rfl (jh (λH=>H.lw) (jh (λH=>H.rwo) ?_))))))))));refine jh (λH=>H.rok) ?_;exact nJ (λH=>(((H.nl 3 oD 225).nl 3 xP 165).nl 1 xF 2).s [3,2,1,0] rfl rfl) (dA 4 e2) (rt rfl) ⟨_,_,_,_,i5,i6,lv⟩
 refine xI (xC 2 rfl (xT ?_ ?_))
 ·refine xI (aG 3 e3 (aG 2 e3 (aG 1 e3 (jB λz3 c3=>?_))));refine jk (λH=>uU z3 c3 _ aA (xB.m e (H.a f)) (xH.m h (H.a i)) (vU.m L (H.a x))) λv6 v7 i7 i8=>jA 2 rfl (js [2,0,1,3,4,5] rfl ?_);refine zX (hv:=(λH=>oc rfl (oc (H.l 1 rfl).one (oc (H.l 2 rfl).one (oc rfl (oc rfl on)))))) e3 (bA 1 rfl (js [0,1,2] rfl (js [1,0,2] rfl (jh (λH=>H.lw) (jh (λH=>H.rwo) (jh (λH=>H.rok) ?_))))));exact nJ (λH=>((H.nl 3 xP 165).nl 1 xF 2).s [2,4,1,0] rfl rfl) (dA 1 e2) (rt rfl) ⟨_,_,_,_,i7,i8,lv⟩
 refine xI (xC 2 rfl (xT ?_ ?_))
 ·refine xI (aG 3 e3 (aG 2 e3 (aG 1 e3 (jB λz4 c4=>?_))));refine jk (λH=>xAa z4 c4 _ H.hN (xB.m e (H.u f)) (xH.m h (H.u i)) (vU.m L (H.u x))) λv8 v9 ae i9 P=>jA 2 rfl (js [3,0,1,2,4,5,6] rfl ?_);refine zX (hv:=(λH=>oc rfl (oc (H.ro 1 rfl).one (oc (H.l 2 rfl).one (oc (H.l 3 rfl).one (oc rfl on)))))) e3 (bA 1 rfl (js [0,1,2,3] rfl (js [1,0,2,3] rfl ?_)));exact nJ (λH=>(H.nl 1 xF 2).s [1,3,4,0] rfl rfl) (dA 1 e2) (rt rfl) ⟨_,_,_,_,i9,P,lv⟩
 refine wB (aG 3 e3 (aG 2 e3 (jB λz5 c5=>?_)));refine jk (λH=>wU z5 c5 _ aA (xB.m e (H.a f)) (xH.m h (H.a i))) λaf ag Q R=>jA 2 rfl (js [2,0,1,3,4,5] rfl ?_);refine zX (hv:=(λH=>oc rfl (oc (H.l 1 rfl).one (oc rfl (oc rfl (oc (H.l 2 rfl).one on)))))) e3 (xS 1 rfl (js [0,1,2] rfl (js [1,0,2] rfl (jh (λH=>H.lw) (jh (λH=>H.rwo) (jh (λH=>H.rok) ?_))))));exact nJ (λH=>((H.nl 3 oD 225).nl 3 xP 165).s [2,1,0,4] rfl rfl) (dA 1 e2) (rt rfl) ⟨_,_,_,_,Q,R,lv⟩
def lZ (N:Nat) (d:A6) (f:A7):Option (Int×B0×Int):= xG (kS (A6.mk d.size d.rels) (A7.mk f.vars f.cons)) λh=>if (!h) then some (0,(B0.mk 0 ([]) ([]) ([]) ([])),1) else xG (lR N (A6.mk d.size d.rels)) λe=>if (e.2.2 != 0) then some (0,(B0.mk 0 ([]) ([]) ([]) ([])),e.2.2) else xG (rS N (A6.mk d.size d.rels) (A7.mk f.vars f.cons) e.1 (Op.mk e.2.1.arity e.2.1.table)) λc=>if (c.2 != 0) then some (0,(B0.mk 0 ([]) ([]) ([]) ([])),c.2) else some (e.1,(B0.mk c.1.kind c.1.values c.1.arcs c.1.pairs c.1.numbers),0)
theorem xHf {y z} (r) (I:lZ N y z=some r) {d e} (c) (hN:HN B c) (K:Bo B c (qS 2 xB) d y) (L:Bo B c (qS 2 xH) e z):CG B c 26 #[d,e] (.v λi=>.v λj=>.v λp=>.v λt=>.fa (xL r.1) <| .fa (xL r.2.1.kind) <| .fa (xL r.2.2) <| .st (.tuple #[xA r.1,.agg #[xA r.2.1.kind,i,j,p,t],xA r.2.2]) λD=>ro B (V:=(Sl 1 xF)) i r.2.1.values::rl 3 oD 225 j r.2.1.arcs::rl 3 xP 165 p r.2.1.pairs::rl 1 xF 2 t r.2.1.numbers::D):=by
 unfold lZ at I
 revert r
 refine vM func26 [(0,d),(1,e)] hN λr=>?_;refine xI ?_;obtain⟨v2,rfl,f,h⟩:=xB.o K;refine jX e2 (λ_=>?_);obtain⟨a1,rfl,A,C⟩:=xH.o L;refine jX e2 λ_=>jo rfl (aK rfl λ_=>xK 1 rfl (aG 2 e3 (aG 1 e3 (jB λM O=>?_))));refine jk (λH=>fM M O _ aA (xB.m f (H.a h)) (xH.m A (H.a C))) (xC 1 rfl (xT ?_ ?_))
 ·refine xI (oV e5 (jo rfl (zX e3 (oE 1 rfl (js [0] rfl (jh (λH=>H.rob (Bo.snil (sz:=1) (R:=xF))) ?_))))));exact j3m (λH=>(((H.nl 3 oD 225).nl 3 xP 165).nl 1 xF 2).s [3,2,1,0] rfl rfl) (rt rfl) (dA 1 e2) (rt rfl) ⟨_,_,_,_,xO,xO,zL,lv⟩
 refine qR (aG 2 e3 (jB λP Q=>?_));refine jk (λH=>xGc P Q _ aA (xB.m f (H.a h))) λv3 E S T=>jA 4 rfl (aK rfl λ_=>jo rfl ?_);refine zX (hv:=(λH=>oc rfl (oc (H.l 1 rfl).one on))) e3 (xK 1 rfl (xC 2 rfl (xT ?_ ?_)))
 ·refine xI (oV e5 (jA 2 rfl (js [2,0,1,3,4] rfl (zX e3 (oE 1 rfl (js [0] rfl (jh (λH=>H.rob (Bo.snil (sz:=1) (R:=xF))) ?_)))))));exact j3m (λH=>(((H.nl 3 oD 225).nl 3 xP 165).nl 1 xF 2).s [3,2,1,0] rfl rfl) (rt rfl) (dA 1 e2) (rt rfl) ⟨_,_,_,_,xO,xO,T,lv⟩
 refine qR (aG 4 e3 (aG 3 e3 (jo rfl (aG 0 e3 (js [1,0,2,3,4] rfl (cZ λ_ _ _ _ U F x _=>(jB λW X=>?_)))))));refine jk (λH=>xIu W X _ H.hN (xB.m f (H.u (F h))) (xH.m A (H.u (F C))) E (vU.m S (H.u U.ld))) λv4 v5 v6 v7 Y Z=>jA 3 rfl (aK rfl (λ_=>?_));refine zX (hv:=(λH=>oc rfl (oc (H.ro 1 rfl).one (oc (H.l 2 rfl).one (oc (H.l 3 rfl).one (oc (H.l 4 rfl).one on)))))) e3 (xK 1 rfl (xC 2 rfl (xT ?_ ?_)))
 ·refine xI (oV e5 (jA 2 rfl (js [6,0,1,2,3,4,5,7,8] rfl (zX e3 (oE 1 rfl (js [0] rfl (aI x (jh (λH=>H.rob (Bo.snil (sz:=1) (R:=xF))) ?_))))))));exact j3m (λH=>(((H.nl 3 oD 225).nl 3 xP 165).nl 1 xF 2).s [3,2,1,0] rfl rfl) (rt rfl) (dA 2 e2) (rt rfl) ⟨_,_,_,_,xO,xO,Z,lv⟩
 refine xY (cZ λ_ _ _ _ g2 _ G _=>(jD (zF [0] rfl (rY 1 rfl g2.bk e2 (zF [2] rfl (jE 3 rfl (js [5,0,1,2,3,4,6,7] rfl ?_)))))));refine zX (hv:=(λH=>oc rfl (oc (H.ro 1 rfl).one (oc (H.l 2 rfl).one (oc (H.l 3 rfl).one (oc (H.l 4 rfl).one on)))))) e3 (qK (zF [4] rfl (iT (nH (js [0,1,2,3,4] rfl (aI G (js [2,0,1,3,4,5] rfl ?_)))))));refine jh (λH=>x.2.1 H (Ns.all ⟨n0,⟨n0,⟨n0,⟨n0,⟨n0,trivial⟩⟩⟩⟩⟩)) ?_;exact j3m (λH=>H.s [0,3,4,5] rfl rfl) (rt rfl) (dA 2 e2) (rt rfl) ⟨_,_,_,_,E,Y,xO,lv⟩
end Go.Proofs.YtnjlbbfcngjhmaaGreat
