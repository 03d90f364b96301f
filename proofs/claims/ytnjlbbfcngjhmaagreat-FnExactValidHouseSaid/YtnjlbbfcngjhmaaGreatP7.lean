import Derived.Test.YtnjlbbfcngjhmaaGreatP6
namespace Go.Proofs.YtnjlbbfcngjhmaaGreat
set_option linter.unusedVariables false
set_option linter.unusedSimpArgs false
open Go.Proofs.Tryz
set_option maxHeartbeats 1000000
set_option maxRecDepth 100000
open Go.RowKit
variable {B:Nat->Prop} {N:Nat}
def lH (e:List Int) (c:Op) (d:Int):Option Bool:= xG (ix e 0) λf=>xG (ix e 1) λh=>xG (ix e 2) λi=>xG (aM c d ([f,h])) λj=>xG (aM c d ([j,i])) λp=>xG (aM c d ([h,i])) λt=>xG (aM c d ([f,t])) λx=>some ((p==x))
theorem xHy {x0 h c} (r) (hR:lH x0 h c=some r) {v0 v1 v2} (d) (hN:HN B d) (t:Bo B d (Sl 1 xF) v0 x0) (M:Bo B d (Pt 2 vU) v1 h) (N:Bo B d (Pt 1 xF) v2 c):CG B d 202 #[v0,v1,v2] (.st (.bool r) λD=>D):=by
 unfold lH at hR
 revert r
 refine vM func202 [(0,v0),(1,v1),(2,v2)] hN λr=>?_;refine xI (xW 1 rfl (jB λi c1=>(jB λj c2=>(jB λe c3=>(jB λp c4=>(jB λO c5=>(jB λz6 c6=>(jB λz7 c7=>(jD ?_)))))))));refine jdp (f:=5) (ls:=#[true,true,true,true,true,true,true,true,true,true,true,true,true,true,true,true,true,true,true,true,true,true,true,true,true,true,true,true,true,true,true,false,false,false,false,false]) (.v λv3=>.v λv4=>.v λv5=>.fa (xL O) <| .fa (Bo B d (qS 2 vU) v3 h) <| .fa (xL c) <| .fa (xL i) <| .fa (Bo B d (qS 2 vU) v4 h) <| .fa (xL c) <| .st [(4,.bool false),(21,xA O),(22,v3),(23,xA c),(26,xA i),(27,v4),(28,xA c),(35,v5)] [rl 1 xF 2 v5 ([j,e])]) (λ_ _ _ _ h1 i1 i2 h2 i3=>?_) (λH1=>?_)
 ·refine jE 31 rfl (jk (λH=>vG z6 c6 _ aA (H.a h2) i3 (H.l 0 rfl)) λau=>qK (jE 32 rfl ?_));refine jRI [i,z6] (by simp only[Ai,Ap,Au,implies_true,and_true];exact⟨i2,au⟩) λ_=>qK (jE 33 rfl (jk (λH=>vG z7 c7 _ aA (H.a h1) i1 (H.l 0 rfl)) λiz2=>qK (zF [34,35] rfl (iT (nH ?_)))));exact qT (rt rfl) lv
 refine jdp (f:=6) (ls:=#[true,true,true,true,true,true,true,true,true,true,true,true,true,true,true,true,false,true,true,true,true,true,true,true,true,true,true,true,true,true,true,false,false,false,false,false]) (.v λv6=>.v λv7=>.v λv8=>.v λv9=>.v λP=>.fa (Bo B d (qS 2 vU) v6 h) <| .fa (xL c) <| .fa (Bo B d (qS 2 vU) v8 h) <| .fa (xL c) <| .fa (xL i) <| .fa (Bo B d (qS 2 vU) v9 h) <| .fa (xL c) <| .st [(4,.bool false),(5,v6),(6,xA c),(20,v7),(22,v8),(23,xA c),(26,xA i),(27,v9),(28,xA c),(35,P)] [rl 1 xF 2 v7 ([p,e]),rl 1 xF 2 P ([j,e])]) (λ_ _ v8 v9 P h3 i4 h4 i5 i6 h5 i7=>?_) (λH2=>?_)
 ·refine jE 16 rfl (jk (λH=>vG O c5 _ aA (H.a h3) i4 (H.l 0 rfl)) λQ=>qK (js [1] rfl ?_));exact H1 ⟨_,_,_,Q,h4,i5,i6,h5,i7,ls⟩
 refine jdp (f:=7) (ls:=#[true,true,true,true,true,true,true,true,true,true,true,true,true,true,true,false,false,true,true,true,true,true,true,true,true,true,true,true,true,true,true,false,false,false,false,false]) (.v λR=>.v λS=>.v λT=>.v λU=>.fa (Bo B d (qS 2 vU) R h) <| .fa (xL c) <| .fa (xL p) <| .fa (xL e) <| .fa (Bo B d (qS 2 vU) S h) <| .fa (xL c) <| .fa (xL i) <| .fa (Bo B d (qS 2 vU) T h) <| .fa (xL c) <| .st [(4,.bool false),(5,R),(6,xA c),(16,xA p),(19,xA e),(22,S),(23,xA c),(26,xA i),(27,T),(28,xA c),(35,U)] [rl 1 xF 2 U ([j,e])]) (λR S T U h6 i8 i9 av h7 aw ax h8 ay=>?_) (λH3=>?_)
 ·refine jE 15 rfl ?_;refine jRI [p,e] (by simp only[Ai,Ap,Au,implies_true,and_true];exact⟨i9,av⟩) λc8=>qK ?_;exact H2 ⟨_,_,_,_,_,h6,i8,h7,aw,ax,h8,ay,ls⟩
 refine jdp (f:=8) (ls:=#[true,true,true,true,true,true,true,true,true,true,true,false,true,true,true,false,false,true,true,true,true,true,true,true,true,true,true,true,true,true,true,false,false,false,false,false]) (.v λW=>.v λa7=>.v λa8=>.v λX=>.v λY=>.v λZ=>.fa (Bo B d (qS 2 vU) W h) <| .fa (xL c) <| .fa (Bo B d (qS 2 vU) a7 h) <| .fa (xL c) <| .fa (xL e) <| .fa (Bo B d (qS 2 vU) X h) <| .fa (xL c) <| .fa (xL i) <| .fa (Bo B d (qS 2 vU) Y h) <| .fa (xL c) <| .st [(4,.bool false),(5,W),(6,xA c),(7,a7),(8,xA c),(15,a8),(19,xA e),(22,X),(23,xA c),(26,xA i),(27,Y),(28,xA c),(35,Z)] [rl 1 xF 2 a8 ([i,j]),rl 1 xF 2 Z ([j,e])]) (λW _ _ X Y Z h9 az b0 b1 b2 b3 b4 b5 b6 b7=>?_) (λH4=>?_)
 ·refine jE 11 rfl (jk (λH=>vG p c4 _ aA (H.a b0) b1 (H.l 0 rfl)) λK=>qK (js [1] rfl ?_));exact H3 ⟨_,_,_,_,h9,az,K,b2,b3,b4,b5,b6,b7,ls⟩
 refine xFg 0 rfl M λc9 x=>aW 1 rfl N λy=>xFg 2 rfl M λca a0=>aW 3 rfl N λa1=>zF [4] rfl (pQ 5 rfl t c1 λ_ b8=>aW 6 rfl b8 λa9=>zF [7] rfl (pQ 8 rfl t c2 λ_ b9=>aW 9 rfl b9 λaa=>zF [12] rfl ?_));refine pQ 13 rfl t c3 λ_ ba=>aW 14 rfl ba λL=>xFg 17 rfl M λcb z=>aW 18 rfl N λA=>zF [19] rfl (pQ 20 rfl t c1 λ_ bb=>aW 21 rfl bb λC=>xFg 22 rfl M λcc E=>aW 23 rfl N λF=>zF [24] rfl (pQ 25 rfl t c2 (λ_ bc=>?_)));refine aW 26 rfl bc λG=>zF [27] rfl (pQ 28 rfl t c3 λ_ bd=>aW 29 rfl bd λI=>eG (λH=>H) 10 30 rfl rfl ?_ ?_)
 ·
  refine jRI [i,j] (by simp only[Ai,Ap,Au,implies_true,and_true];exact⟨a9,aa⟩) λcd=>qK (eG (λH=>H) 11 30 rfl rfl ?_ ?_)
  ·
   refine jk (λH=>vG p c4 _ aA (H.a a0) a1 (H.l 0 rfl)) λK=>qK (eG (λH=>H) 15 30 rfl rfl ?_ ?_)
   ·
    refine jRI [p,e] (by simp only[Ai,Ap,Au,implies_true,and_true];exact⟨K,L⟩) λce=>qK (eG (λH=>H) 16 30 rfl rfl ?_ ?_)
    ·refine jk (λH=>vG O c5 _ aA (H.a x) y (H.l 0 rfl)) λQ=>qK (jE 30 rfl ?_);refine jRI [j,e] (by simp only[Ai,Ap,Au,implies_true,and_true];exact⟨G,I⟩) λcf=>qK (js [0] rfl ?_);exact H1 ⟨_,_,_,Q,z,A,C,E,F,ls⟩
    refine jRI [j,e] (by simp only[Ai,Ap,Au,implies_true,and_true];exact⟨G,I⟩) λcg=>qK (js [1,0] rfl ?_);exact H2 ⟨_,_,_,_,_,x,y,z,A,C,E,F,ls⟩
   refine jRI [j,e] (by simp only[Ai,Ap,Au,implies_true,and_true];exact⟨G,I⟩) λch=>qK (js [0] rfl ?_);exact H3 ⟨_,_,_,_,x,y,K,L,z,A,C,E,F,ls⟩
  refine jRI [j,e] (by simp only[Ai,Ap,Au,implies_true,and_true];exact⟨G,I⟩) λci=>qK (js [1,0] rfl ?_);exact H4 ⟨_,_,_,_,_,_,x,y,a0,a1,L,z,A,C,E,F,ls⟩
 refine jRI [j,e] (by simp only[Ai,Ap,Au,implies_true,and_true];exact⟨G,I⟩) λcj=>qK (jE 10 rfl ?_);refine jRI [i,j] (by simp only[Ai,Ap,Au,implies_true,and_true];exact⟨a9,aa⟩) λcm=>qK ?_;exact H4 ⟨_,_,_,_,_,_,x,y,a0,a1,L,z,A,C,E,F,ls⟩
def rR (c d:Int):Option A3:= some ((A3.mk c c c))
theorem xIq {d e} (r) (i:rR d e=some r) (h) (hN:HN B h) (f:xL d) (j:xL e):CG B h 204 #[xA d,xA e] (.fa (xL r.a) <| .fa (xL r.b) <| .fa (xL r.c) <| .st (.agg #[xA r.a,xA r.b,xA r.c]) λD=>D):=by
 unfold rR at i
 revert r
 refine vM func204 [(0,xA d),(1,xA e)] hN λr=>?_;refine xI (aK rfl λ_=>qW (jA 3 rfl (xYh e5 (zX e3 (pM ?_)))));exact j1m (λH=>H.s [] rfl rfl) (dA 0 e2) ⟨f,f,f,lv⟩
def cR (j:List Int) (f:Op) (h:Int):Option Bool:= xG (ix j 0) λd=>xG (ix j 1) λe=>xG (aM f h ([d,d,e])) λx=>xG (aM f h ([d,e,d])) λy=>xG (aM f h ([e,d,d])) λz=>xG (rR d e) λi=>oZ (σ:=Unit) (qM (λp s=>match s with | _=>xG (ix [i.a,i.b,i.c] (p:Int)) λt=>oZ (σ:=Bool) (if (decide (0<=t)) then  xG (ix [x,y,z] (p:Int)) λA=>some (.nx (A != t)) else  some (.nx false)) λB=>if B then some (.ret false) else some (.go ())) (3:Int).toNat 0 ()) λ_=>some true
theorem xDu {x0 p h} (r) (hR:cR x0 p h=some r) {v0 v1 v2 y} (j) (hN:HN B j) (A0:Bo B j (Sl 1 xF) v0 x0) (A1:Bo B j (Pt 2 vU) v1 p) (A2:Bo B j (Pt 1 xF) v2 h) (A3:Bk B j y [.func (.func 204) #[] #[]] 253):CG B j 243 #[v0,v1,v2,oK y] (.st (.bool r) λD=>D):=by
 unfold cR at hR
 revert r
 refine vM func243 [(0,v0),(1,v1),(2,v2),(3,oK y)] hN λr=>?_;refine xI (xW 1 rfl (jQ (zA 1 rfl (jB λd c1=>(lM A0 c1 λ_ h1=>kI h1 λi=>zA 1 rfl (jB λe c2=>(lM A0 c2 (λ_ h2=>?_))))))));refine kI h2 λt=>zA 2 rfl (nD (xMp (jB λx N=>(jB λI W=>(jB λQ c5=>(jD ?_))))));refine jdp (f:=1) (ls:=#[true,true,true,true,true,true,true,true,true,true,true,true,true,true,true,true,true,true,true,true,true,true,true,false]) (.n λO=>.fa (xL 0) <| .fa (xL 0) <| .fa (xL 0) <| .fa (xL x) <| .fa (xL I) <| .fa (xL Q) <| .st [(3,oK y),(6,xA d),(7,xA e),(8,oK O),(38,(.agg #[xA x,xA I,xA Q]))] [bx O [xA 0,xA 0,xA 0] 252]) (λO _ _ _ _ _ _=>?_) (λH1=>?_)
 ·
  refine jE 23 rfl (zX e3 (qK (iT (cF (jbK A3 e2 (jA 2 rfl (jB λP c6=>?_)))))));refine jkV (lb:=[]) call204 e2 (λH=>xIq P c6 _ aA i t) λ_ _ _=>xC 1 rfl (qZ (λ_=>.st [] []) ?_ (λ_=>?_))
  ·
   refine zK ?_;refine jc (λk1 _=>.st [(43,xA (k1:Int)),(8,oK O),(42,(.agg #[xA P.a,xA P.b,xA P.c]))] [bx O [xA x,xA I,xA Q] 252]) ls (λ_ _ _ R=>?_) (λ_ k1 _ R=>?_)
   ·have l1:=vD R;refine xI (xW 1 rfl (kJ l1 (xN (js [] rfl ?_))));exact jf ls
   refine xI (xW 1 rfl (kO (qP R) (xY ?_)));have j1:=dT R lL;have m1:=vY R lL;refine qE (jo rfl (jB λz5 c7=>(oGv c7 e2 (xW 2 rfl ?_))));refine qZ (λs1=>.st [(8,oK O),(42,(.agg #[xA P.a,xA P.b,xA P.c])),(43,xA (k1:Int)),(55,.bool s1)] [bx O [xA x,xA I,xA Q] 252]) ?_ (λ_=>?_)
   ·
    refine lP (jA 3 rfl (fD 49 (λ_=>?_) (λ_=>?_)))
    ·refine jo rfl (jB λz6 c8=>(oEi c8 e2 ?_));refine jb 0 ⟨rfl,rfl,(ix3 c8)⟩ (xC 3 rfl ?_);exact jf ls
    refine xC 6 rfl ?_;exact jf ls
   refine eD (xT ?_ ?_)
   ·refine xI (oY 1 rfl (fZ (zR (fH (lD ?_)))));exact qT (rt rfl) lv
   refine qJ (xU m1 (xC 1 rfl ?_));exact jg ls
  refine oO (xS 1 rfl ?_);exact qT (rt rfl) lv
 refine jdp (f:=3) (ls:=#[true,true,true,true,true,true,true,true,true,true,true,true,true,true,true,true,true,true,true,true,false,false,true,false]) (.n λb2=>.v λv3=>.v λv4=>.fa (xL 0) <| .fa (xL 0) <| .fa (xL 0) <| .fa (xL x) <| .fa (xL I) <| .fa (Bo B j (qS 2 vU) v3 p) <| .fa (xL h) <| .st [(3,oK y),(6,xA d),(7,xA e),(8,oK b2),(23,xA x),(30,xA I),(31,v3),(32,xA h),(36,v4)] [bx b2 [xA 0,xA 0,xA 0] 252,rl 1 xF 2 v4 ([e,d,d])]) (λb2 _ _ i3 i4 i5 i6 i7 h3 i8=>?_) (λH2=>?_)
 ·refine jE 20 rfl (jk (λH=>vG Q c5 _ aA (H.a h3) i8 (H.l 1 rfl)) λax=>qK ?_);refine jvv 21 rfl (λF H w l=>xLv underlying252 zeroValue252 sizeOf2 F rfl rfl rfl rfl (oc rfl (oc rfl (oc rfl on))) rfl rfl) (js [0] rfl ?_);exact H1 ⟨_,i3,i4,i5,i6,i7,ax,ls⟩
 refine jdp (f:=4) (ls:=#[true,true,true,true,true,true,true,true,true,true,true,true,true,true,true,true,true,true,true,false,false,false,true,false]) (.n λb3=>.v λv5=>.fa (xL 0) <| .fa (xL 0) <| .fa (xL 0) <| .fa (xL x) <| .fa (xL I) <| .fa (Bo B j (qS 2 vU) v5 p) <| .fa (xL h) <| .st [(3,oK y),(6,xA d),(7,xA e),(8,oK b3),(23,xA x),(30,xA I),(31,v5),(32,xA h),(33,xA e),(34,xA d),(35,xA d)] [bx b3 [xA 0,xA 0,xA 0] 252]) (λb3 v5 i9 i10 i11 i12 i13 h4 i14=>?_) (λH3=>?_)
 ·refine jE 19 rfl ?_;refine jRI [e,d,d] (by simp only[Ai,Ap,Au,implies_true,and_true];exact⟨t,i,i⟩) λv6=>qK (js [1,0] rfl ?_);exact H2 ⟨_,_,_,i9,i10,i11,i12,i13,h4,i14,ls⟩
 refine jdp (f:=4) (ls:=#[true,true,true,true,true,true,true,true,true,true,true,true,true,false,true,true,true,true,true,true,false,false,true,false]) (.n λb4=>.v λv7=>.v λv8=>.v λv9=>.v λay=>.fa (xL 0) <| .fa (xL 0) <| .fa (xL 0) <| .fa (xL x) <| .fa (Bo B j (qS 2 vU) v7 p) <| .fa (xL h) <| .fa (Bo B j (qS 2 vU) v9 p) <| .fa (xL h) <| .st [(3,oK y),(6,xA d),(7,xA e),(8,oK b4),(23,xA x),(24,v7),(25,xA h),(29,v8),(31,v9),(32,xA h),(36,ay)] [bx b4 [xA 0,xA 0,xA 0] 252,rl 1 xF 2 v8 ([d,e,d]),rl 1 xF 2 ay ([e,d,d])]) (λb4 _ _ v9 ay i16 i17 i18 ha h5 hb h6 hc=>?_) (λX=>?_)
 ·refine jE 13 rfl (jk (λH=>vG I W _ aA (H.a h5) hb (H.l 1 rfl)) λM=>qK (js [0,2] rfl ?_));exact H2 ⟨_,_,_,i16,i17,i18,ha,M,h6,hc,ls⟩
 refine jdp (f:=4) (ls:=#[true,true,true,true,true,true,true,true,true,true,true,true,true,true,true,true,true,true,true,true,false,false,false,false]) (.v λaz=>.v λb0=>.fa (xL x) <| .fa (xL I) <| .fa (Bo B j (qS 2 vU) az p) <| .fa (xL h) <| .st [(3,oK y),(6,xA d),(7,xA e),(23,xA x),(30,xA I),(31,az),(32,xA h),(36,b0)] [rl 1 xF 2 b0 ([e,d,d])]) (λaz b0 e6 e7 h7 e8=>?_) (λH5=>?_)
 ·
  refine eG (λH=>H) 20 22 rfl rfl ?_ ?_
  ·refine jk (λH=>vG Q c5 _ aA (H.a h7) e8 (H.l 0 rfl)) λax=>qK ?_;refine jvv 21 rfl (λF H w l=>xLv underlying252 zeroValue252 sizeOf2 F rfl rfl rfl rfl (oc rfl (oc rfl (oc rfl on))) rfl rfl) (jE 22 rfl (aK rfl λb5=>qK (js [0] rfl ?_)));exact H1 ⟨_,xO,xO,xO,e6,e7,ax,ls⟩
  refine aK rfl λb6=>qK ?_;exact H2 ⟨_,_,_,xO,xO,xO,e6,e7,h7,e8,ls⟩
 refine jdp (f:=5) (ls:=#[true,true,true,true,true,true,true,true,true,true,true,true,false,false,true,true,true,true,true,true,false,false,true,false]) (.n λb7=>.v λb1=>.v λv14=>.v λv15=>.fa (xL 0) <| .fa (xL 0) <| .fa (xL 0) <| .fa (xL x) <| .fa (Bo B j (qS 2 vU) b1 p) <| .fa (xL h) <| .fa (Bo B j (qS 2 vU) v14 p) <| .fa (xL h) <| .st [(3,oK y),(6,xA d),(7,xA e),(8,oK b7),(23,xA x),(24,b1),(25,xA h),(26,xA d),(27,xA e),(28,xA d),(31,v14),(32,xA h),(36,v15)] [bx b7 [xA 0,xA 0,xA 0] 252,rl 1 xF 2 v15 ([e,d,d])]) (λb7 b1 v14 v15 he hf hg hh h8 hi h9 hj=>?_) (λH6=>?_)
 ·refine jE 12 rfl ?_;refine jRI [d,e,d] (by simp only[Ai,Ap,Au,implies_true,and_true];exact⟨i,t,i⟩) λiq=>qK (js [1,0,2] rfl ?_);exact X ⟨_,_,_,_,_,he,hf,hg,hh,h8,hi,h9,hj,ls⟩
 refine jdp (f:=5) (ls:=#[true,true,true,true,true,true,true,true,true,true,true,true,true,false,true,true,true,true,true,true,false,false,false,false]) (.v λv17=>.v λv18=>.v λv19=>.v λv20=>.fa (xL x) <| .fa (Bo B j (qS 2 vU) v17 p) <| .fa (xL h) <| .fa (Bo B j (qS 2 vU) v19 p) <| .fa (xL h) <| .st [(3,oK y),(6,xA d),(7,xA e),(23,xA x),(24,v17),(25,xA h),(29,v18),(31,v19),(32,xA h),(36,v20)] [rl 1 xF 2 v18 ([d,e,d]),rl 1 xF 2 v20 ([e,d,d])]) (λv17 v18 v19 v20 e9 ea ec ed ee=>?_) (λH7=>?_)
 ·
  refine eG (λH=>H) 13 22 rfl rfl ?_ ?_
  ·refine jk (λH=>vG I W _ aA (H.a ea) ec (H.l 0 rfl)) λM=>qK (js [1] rfl ?_);exact H5 ⟨_,_,e9,M,ed,ee,ls⟩
  refine aK rfl λb8=>qK ?_;exact X ⟨_,_,_,_,_,xO,xO,xO,e9,ea,ec,ed,ee,ls⟩
 refine jdp (f:=5) (ls:=#[true,true,true,true,true,true,false,true,true,true,true,true,true,false,true,true,true,true,true,true,false,false,true,false]) (.n λb9=>.v λef=>.v λeg=>.v λv23=>.v λv24=>.v λba=>.v λbb=>.fa (xL 0) <| .fa (xL 0) <| .fa (xL 0) <| .fa (Bo B j (qS 2 vU) ef p) <| .fa (xL h) <| .fa (Bo B j (qS 2 vU) v23 p) <| .fa (xL h) <| .fa (Bo B j (qS 2 vU) ba p) <| .fa (xL h) <| .st [(3,oK y),(6,xA d),(7,xA e),(8,oK b9),(17,ef),(18,xA h),(22,eg),(24,v23),(25,xA h),(29,v24),(31,ba),(32,xA h),(36,bb)] [bx b9 [xA 0,xA 0,xA 0] 252,rl 1 xF 2 eg ([d,d,e]),rl 1 xF 2 v24 ([d,e,d]),rl 1 xF 2 bb ([e,d,d])]) (λb9 _ _ v23 v24 ba bb hk hl hm hn ho hp hq hr hs=>?_) (λY=>?_)
 ·refine jE 6 rfl (jk (λH=>vG x N _ aA (H.a hn) ho (H.l 1 rfl)) λz=>qK (js [0,2,3] rfl ?_));exact X ⟨_,_,_,_,_,hk,hl,hm,z,hp,hq,hr,hs,ls⟩
 refine jdp (f:=5) (ls:=#[true,true,true,true,true,true,true,true,true,true,true,true,true,false,true,true,true,true,true,false,false,false,true,false]) (.n λbc=>.v λbd=>.v λbe=>.v λbf=>.fa (xL 0) <| .fa (xL 0) <| .fa (xL 0) <| .fa (xL x) <| .fa (Bo B j (qS 2 vU) bd p) <| .fa (xL h) <| .fa (Bo B j (qS 2 vU) bf p) <| .fa (xL h) <| .st [(3,oK y),(6,xA d),(7,xA e),(8,oK bc),(23,xA x),(24,bd),(25,xA h),(29,be),(31,bf),(32,xA h),(33,xA e),(34,xA d),(35,xA d)] [bx bc [xA 0,xA 0,xA 0] 252,rl 1 xF 2 be ([d,e,d])]) (λbc bd be bf eh ei ej ek el em en eo=>?_) (λH9=>?_)
 ·
  refine eG (λH=>H) 13 19 rfl rfl ?_ ?_
  ·refine jk (λH=>vG I W _ aA (H.a el) em (H.l 1 rfl)) λM=>qK (js [0] rfl ?_);exact H3 ⟨_,_,eh,ei,ej,ek,M,en,eo,ls⟩
  refine jRI [e,d,d] (by simp only[Ai,Ap,Au,implies_true,and_true];exact⟨t,i,i⟩) λir=>qK (js [1,2,0] rfl ?_);exact X ⟨_,_,_,_,_,eh,ei,ej,ek,el,em,en,eo,ls⟩
 refine jdp (f:=6) (ls:=#[true,true,true,true,true,true,false,true,true,true,true,true,true,false,true,true,true,true,true,true,false,false,false,false]) (.v λbg=>.v λbh=>.v λbi=>.v λbj=>.v λbm=>.v λbn=>.fa (Bo B j (qS 2 vU) bg p) <| .fa (xL h) <| .fa (Bo B j (qS 2 vU) bi p) <| .fa (xL h) <| .fa (Bo B j (qS 2 vU) bm p) <| .fa (xL h) <| .st [(3,oK y),(6,xA d),(7,xA e),(17,bg),(18,xA h),(22,bh),(24,bi),(25,xA h),(29,bj),(31,bm),(32,xA h),(36,bn)] [rl 1 xF 2 bh ([d,d,e]),rl 1 xF 2 bj ([d,e,d]),rl 1 xF 2 bn ([e,d,d])]) (λbg bh bi bj bm bn ep er es et eu ew=>?_) (λbp=>?_)
 ·
  refine eG (λH=>H) 6 22 rfl rfl ?_ ?_
  ·refine jk (λH=>vG x N _ aA (H.a ep) er (H.l 0 rfl)) λz=>qK (js [1,2] rfl ?_);exact H7 ⟨_,_,_,_,z,es,et,eu,ew,ls⟩
  refine aK rfl λit=>qK ?_;exact Y ⟨_,_,_,_,_,_,_,xO,xO,xO,ep,er,es,et,eu,ew,ls⟩
 refine jdp (f:=6) (ls:=#[true,true,true,true,true,true,true,true,true,true,true,true,false,false,true,true,true,true,true,false,false,false,true,false]) (.n λbr=>.v λbs=>.v λbt=>.fa (xL 0) <| .fa (xL 0) <| .fa (xL 0) <| .fa (xL x) <| .fa (Bo B j (qS 2 vU) bs p) <| .fa (xL h) <| .fa (Bo B j (qS 2 vU) bt p) <| .fa (xL h) <| .st [(3,oK y),(6,xA d),(7,xA e),(8,oK br),(23,xA x),(24,bs),(25,xA h),(26,xA d),(27,xA e),(28,xA d),(31,bt),(32,xA h),(33,xA e),(34,xA d),(35,xA d)] [bx br [xA 0,xA 0,xA 0] 252]) (λbr bs bt ex ey ez eI eS f3 f4 f5=>?_) (λf6=>?_)
 ·
  refine eG (λH=>H) 12 19 rfl rfl ?_ ?_
  ·refine jRI [d,e,d] (by simp only[Ai,Ap,Au,implies_true,and_true];exact⟨i,t,i⟩) λiu=>qK (js [1,0] rfl ?_);exact H9 ⟨_,_,_,_,ex,ey,ez,eI,eS,f3,f4,f5,ls⟩
  refine jRI [e,d,d] (by simp only[Ai,Ap,Au,implies_true,and_true];exact⟨t,i,i⟩) λiv=>qK (js [1,0] rfl ?_);exact H6 ⟨_,_,_,_,ex,ey,ez,eI,eS,f3,f4,f5,ls⟩
 refine jdp (f:=6) (ls:=#[true,true,true,true,true,true,true,true,true,true,true,true,true,false,true,true,true,true,true,false,false,false,false,false]) (.v λbu=>.v λbv=>.v λbw=>.fa (xL x) <| .fa (Bo B j (qS 2 vU) bu p) <| .fa (xL h) <| .fa (Bo B j (qS 2 vU) bw p) <| .fa (xL h) <| .st [(3,oK y),(6,xA d),(7,xA e),(23,xA x),(24,bu),(25,xA h),(29,bv),(31,bw),(32,xA h),(33,xA e),(34,xA d),(35,xA d)] [rl 1 xF 2 bv ([d,e,d])]) (λbu bv bw S c0 i60 T U=>?_) (λf7=>?_)
 ·
  refine xKa (λH=>H) 13 19 22 rfl rfl rfl ?_ ?_ ?_
  ·
   refine jk (λH=>vG I W _ aA (H.a c0) i60 (H.l 0 rfl)) λM=>qK (eG (λH=>H) 19 22 rfl rfl ?_ ?_)
   ·refine jRI [e,d,d] (by simp only[Ai,Ap,Au,implies_true,and_true];exact⟨t,i,i⟩) λiw=>qK (js [0] rfl ?_);exact H5 ⟨_,_,S,M,T,U,ls⟩
   refine aK rfl λiy=>qK (js [0] rfl ?_);exact H3 ⟨_,_,xO,xO,xO,S,M,T,U,ls⟩
  ·refine jRI [e,d,d] (by simp only[Ai,Ap,Au,implies_true,and_true];exact⟨t,i,i⟩) λiz=>qK (js [1,0] rfl ?_);exact H7 ⟨_,_,_,_,S,c0,i60,T,U,ls⟩
  refine aK rfl λj4=>qK ?_;exact H9 ⟨_,_,_,_,xO,xO,xO,S,c0,i60,T,U,ls⟩
 refine jdp (f:=6) (ls:=#[true,true,true,true,true,true,true,true,true,true,true,true,false,false,true,true,true,true,true,true,false,false,false,false]) (.v λv48=>.v λc3=>.v λc4=>.fa (xL x) <| .fa (Bo B j (qS 2 vU) v48 p) <| .fa (xL h) <| .fa (Bo B j (qS 2 vU) c3 p) <| .fa (xL h) <| .st [(3,oK y),(6,xA d),(7,xA e),(23,xA x),(24,v48),(25,xA h),(26,xA d),(27,xA e),(28,xA d),(31,c3),(32,xA h),(36,c4)] [rl 1 xF 2 c4 ([e,d,d])]) (λv48 c3 c4 f8 f9 fb fc i64=>?_) (λfd=>?_)
 ·
  refine eG (λH=>H) 12 22 rfl rfl ?_ ?_
  ·refine jRI [d,e,d] (by simp only[Ai,Ap,Au,implies_true,and_true];exact⟨i,t,i⟩) λj5=>qK ?_;exact H7 ⟨_,_,_,_,f8,f9,fb,fc,i64,ls⟩
  refine aK rfl λj6=>qK ?_;exact H6 ⟨_,_,_,_,xO,xO,xO,f8,f9,fb,fc,i64,ls⟩
 refine jdp (f:=6) (ls:=#[true,true,true,true,true,false,false,true,true,true,true,true,true,false,true,true,true,true,true,true,false,false,true,false]) (.n λb16=>.v λv55=>.v λv57=>.v λv58=>.v λc9=>.v λca=>.fa (xL 0) <| .fa (xL 0) <| .fa (xL 0) <| .fa (Bo B j (qS 2 vU) v55 p) <| .fa (xL h) <| .fa (Bo B j (qS 2 vU) v57 p) <| .fa (xL h) <| .fa (Bo B j (qS 2 vU) c9 p) <| .fa (xL h) <| .st [(3,oK y),(6,xA d),(7,xA e),(8,oK b16),(17,v55),(18,xA h),(19,xA d),(20,xA d),(21,xA e),(24,v57),(25,xA h),(29,v58),(31,c9),(32,xA h),(36,ca)] [bx b16 [xA 0,xA 0,xA 0] 252,rl 1 xF 2 v58 ([d,e,d]),rl 1 xF 2 ca ([e,d,d])]) (λb16 v55 v57 v58 c9 ca ht hu hv hw hx hy hz hA hB=>?_) (λcb=>?_)
 ·refine jE 5 rfl ?_;refine jRI [d,d,e] (by simp only[Ai,Ap,Au,implies_true,and_true];exact⟨i,i,t⟩) λj7=>qK (js [1,0,2,3] rfl ?_);exact Y ⟨_,_,_,_,_,_,_,ht,hu,hv,hw,hx,hy,hz,hA,hB,ls⟩
 refine jdp (f:=6) (ls:=#[true,true,true,true,true,true,false,true,true,true,true,true,true,false,true,true,true,true,true,false,false,false,true,false]) (.n λcc=>.v λcd=>.v λce=>.v λcf=>.v λcg=>.v λch=>.fa (xL 0) <| .fa (xL 0) <| .fa (xL 0) <| .fa (Bo B j (qS 2 vU) cd p) <| .fa (xL h) <| .fa (Bo B j (qS 2 vU) cf p) <| .fa (xL h) <| .fa (Bo B j (qS 2 vU) ch p) <| .fa (xL h) <| .st [(3,oK y),(6,xA d),(7,xA e),(8,oK cc),(17,cd),(18,xA h),(22,ce),(24,cf),(25,xA h),(29,cg),(31,ch),(32,xA h),(33,xA e),(34,xA d),(35,xA d)] [bx cc [xA 0,xA 0,xA 0] 252,rl 1 xF 2 ce ([d,d,e]),rl 1 xF 2 cg ([d,e,d])]) (λcc cd ce cf cg ch fe ff fg fh fi fj fk fl fm=>?_) (λci=>?_)
 ·
  refine eG (λH=>H) 6 19 rfl rfl ?_ ?_
  ·refine jk (λH=>vG x N _ aA (H.a fh) fi (H.l 1 rfl)) λz=>qK (js [0,2] rfl ?_);exact H9 ⟨_,_,_,_,fe,ff,fg,z,fj,fk,fl,fm,ls⟩
  refine jRI [e,d,d] (by simp only[Ai,Ap,Au,implies_true,and_true];exact⟨t,i,i⟩) λj8=>qK (js [1,2,3,0] rfl ?_);exact Y ⟨_,_,_,_,_,_,_,fe,ff,fg,fh,fi,fj,fk,fl,fm,ls⟩
 refine jdp (f:=6) (ls:=#[true,true,true,true,true,true,false,true,true,true,true,true,false,false,true,true,true,true,true,true,false,false,true,false]) (.n λcj=>.v λcm=>.v λcn=>.v λco=>.v λcp=>.v λcq=>.fa (xL 0) <| .fa (xL 0) <| .fa (xL 0) <| .fa (Bo B j (qS 2 vU) cm p) <| .fa (xL h) <| .fa (Bo B j (qS 2 vU) co p) <| .fa (xL h) <| .fa (Bo B j (qS 2 vU) cp p) <| .fa (xL h) <| .st [(3,oK y),(6,xA d),(7,xA e),(8,oK cj),(17,cm),(18,xA h),(22,cn),(24,co),(25,xA h),(26,xA d),(27,xA e),(28,xA d),(31,cp),(32,xA h),(36,cq)] [bx cj [xA 0,xA 0,xA 0] 252,rl 1 xF 2 cn ([d,d,e]),rl 1 xF 2 cq ([e,d,d])]) (λcj cm cn co cp cq fn fo fp fq fs ft fu fv fw=>?_) (λcr=>?_)
 ·
  refine eG (λH=>H) 6 12 rfl rfl ?_ ?_
  ·refine jk (λH=>vG x N _ aA (H.a fq) fs (H.l 1 rfl)) λz=>qK (js [0,2] rfl ?_);exact H6 ⟨_,_,_,_,fn,fo,fp,z,ft,fu,fv,fw,ls⟩
  refine jRI [d,e,d] (by simp only[Ai,Ap,Au,implies_true,and_true];exact⟨i,t,i⟩) λj9=>qK (js [1,2,0,3] rfl ?_);exact Y ⟨_,_,_,_,_,_,_,fn,fo,fp,fq,fs,ft,fu,fv,fw,ls⟩
 refine jdp (f:=7) (ls:=#[true,true,true,true,true,false,false,true,true,true,true,true,true,false,true,true,true,true,true,false,false,false,true,false]) (.n λcs=>.v λcu=>.v λcv=>.v λcw=>.v λcx=>.fa (xL 0) <| .fa (xL 0) <| .fa (xL 0) <| .fa (Bo B j (qS 2 vU) cu p) <| .fa (xL h) <| .fa (Bo B j (qS 2 vU) cv p) <| .fa (xL h) <| .fa (Bo B j (qS 2 vU) cx p) <| .fa (xL h) <| .st [(3,oK y),(6,xA d),(7,xA e),(8,oK cs),(17,cu),(18,xA h),(19,xA d),(20,xA d),(21,xA e),(24,cv),(25,xA h),(29,cw),(31,cx),(32,xA h),(33,xA e),(34,xA d),(35,xA d)] [bx cs [xA 0,xA 0,xA 0] 252,rl 1 xF 2 cw ([d,e,d])]) (λcs cu cv cw cx fx fy fz g0 g1 g2 g3 g4 g5=>?_) (λg6=>?_)
 ·
  refine eG (λH=>H) 5 19 rfl rfl ?_ ?_
  ·refine jRI [d,d,e] (by simp only[Ai,Ap,Au,implies_true,and_true];exact⟨i,i,t⟩) λja=>qK (js [1,0,2] rfl ?_);exact ci ⟨_,_,_,_,_,_,fx,fy,fz,g0,g1,g2,g3,g4,g5,ls⟩
  refine jRI [e,d,d] (by simp only[Ai,Ap,Au,implies_true,and_true];exact⟨t,i,i⟩) λjd=>qK (js [1,2,0] rfl ?_);exact cb ⟨_,_,_,_,_,_,fx,fy,fz,g0,g1,g2,g3,g4,g5,ls⟩
 refine jdp (f:=7) (ls:=#[true,true,true,true,true,false,false,true,true,true,true,true,false,false,true,true,true,true,true,true,false,false,true,false]) (.n λcy=>.v λcz=>.v λd0=>.v λd1=>.v λd2=>.fa (xL 0) <| .fa (xL 0) <| .fa (xL 0) <| .fa (Bo B j (qS 2 vU) cz p) <| .fa (xL h) <| .fa (Bo B j (qS 2 vU) d0 p) <| .fa (xL h) <| .fa (Bo B j (qS 2 vU) d1 p) <| .fa (xL h) <| .st [(3,oK y),(6,xA d),(7,xA e),(8,oK cy),(17,cz),(18,xA h),(19,xA d),(20,xA d),(21,xA e),(24,d0),(25,xA h),(26,xA d),(27,xA e),(28,xA d),(31,d1),(32,xA h),(36,d2)] [bx cy [xA 0,xA 0,xA 0] 252,rl 1 xF 2 d2 ([e,d,d])]) (λcy cz d0 d1 d2 g7 g8 g9 ga gb gc gd ge dz=>?_) (λgf=>?_)
 ·
  refine eG (λH=>H) 5 12 rfl rfl ?_ ?_
  ·refine jRI [d,d,e] (by simp only[Ai,Ap,Au,implies_true,and_true];exact⟨i,i,t⟩) λje=>qK (js [1,0,2] rfl ?_);exact cr ⟨_,_,_,_,_,_,g7,g8,g9,ga,gb,gc,gd,ge,dz,ls⟩
  refine jRI [d,e,d] (by simp only[Ai,Ap,Au,implies_true,and_true];exact⟨i,t,i⟩) λi1=>qK (js [1,0,2] rfl ?_);exact cb ⟨_,_,_,_,_,_,g7,g8,g9,ga,gb,gc,gd,ge,dz,ls⟩
 refine jdp (f:=7) (ls:=#[true,true,true,true,true,false,false,true,true,true,true,true,true,false,true,true,true,true,true,true,false,false,false,false]) (.v λZ=>.v λa0=>.v λa1=>.v λa2=>.v λa3=>.fa (Bo B j (qS 2 vU) Z p) <| .fa (xL h) <| .fa (Bo B j (qS 2 vU) a0 p) <| .fa (xL h) <| .fa (Bo B j (qS 2 vU) a2 p) <| .fa (xL h) <| .st [(3,oK y),(6,xA d),(7,xA e),(17,Z),(18,xA h),(19,xA d),(20,xA d),(21,xA e),(24,a0),(25,xA h),(29,a1),(31,a2),(32,xA h),(36,a3)] [rl 1 xF 2 a1 ([d,e,d]),rl 1 xF 2 a3 ([e,d,d])]) (λZ a0 a1 a2 a3 gg e0 gh e1 gi e4=>?_) (λgj=>?_)
 ·
  refine eG (λH=>H) 5 22 rfl rfl ?_ ?_
  ·refine jRI [d,d,e] (by simp only[Ai,Ap,Au,implies_true,and_true];exact⟨i,i,t⟩) λi2=>qK ?_;exact bp ⟨_,_,_,_,_,_,gg,e0,gh,e1,gi,e4,ls⟩
  refine aK rfl λji=>qK ?_;exact cb ⟨_,_,_,_,_,_,xO,xO,xO,gg,e0,gh,e1,gi,e4,ls⟩
 refine jdp (f:=7) (ls:=#[true,true,true,true,true,true,false,true,true,true,true,true,true,false,true,true,true,true,true,false,false,false,false,false]) (.v λa4=>.v λa5=>.v λa6=>.v λa7=>.v λa8=>.fa (Bo B j (qS 2 vU) a4 p) <| .fa (xL h) <| .fa (Bo B j (qS 2 vU) a6 p) <| .fa (xL h) <| .fa (Bo B j (qS 2 vU) a8 p) <| .fa (xL h) <| .st [(3,oK y),(6,xA d),(7,xA e),(17,a4),(18,xA h),(22,a5),(24,a6),(25,xA h),(29,a7),(31,a8),(32,xA h),(33,xA e),(34,xA d),(35,xA d)] [rl 1 xF 2 a5 ([d,d,e]),rl 1 xF 2 a7 ([d,e,d])]) (λa4 a5 a6 a7 a8 d3 a9 d4 aa d5 ab=>?_) (λgk=>?_)
 ·
  refine xKa (λH=>H) 6 19 22 rfl rfl rfl ?_ ?_ ?_
  ·refine jk (λH=>vG x N _ aA (H.a d3) a9 (H.l 0 rfl)) λz=>qK (js [1] rfl ?_);exact f7 ⟨_,_,_,z,d4,aa,d5,ab,ls⟩
  ·refine jRI [e,d,d] (by simp only[Ai,Ap,Au,implies_true,and_true];exact⟨t,i,i⟩) λv120=>qK (js [1,2,0] rfl ?_);exact bp ⟨_,_,_,_,_,_,d3,a9,d4,aa,d5,ab,ls⟩
  refine aK rfl λjj=>qK ?_;exact ci ⟨_,_,_,_,_,_,xO,xO,xO,d3,a9,d4,aa,d5,ab,ls⟩
 refine jdp (f:=7) (ls:=#[true,true,true,true,true,true,false,true,true,true,true,true,false,false,true,true,true,true,true,true,false,false,false,false]) (.v λac=>.v λad=>.v λae=>.v λaf=>.v λag=>.fa (Bo B j (qS 2 vU) ac p) <| .fa (xL h) <| .fa (Bo B j (qS 2 vU) ae p) <| .fa (xL h) <| .fa (Bo B j (qS 2 vU) af p) <| .fa (xL h) <| .st [(3,oK y),(6,xA d),(7,xA e),(17,ac),(18,xA h),(22,ad),(24,ae),(25,xA h),(26,xA d),(27,xA e),(28,xA d),(31,af),(32,xA h),(36,ag)] [rl 1 xF 2 ad ([d,d,e]),rl 1 xF 2 ag ([e,d,d])]) (λac ad ae af ag d6 ah d7 ai d8 aj=>?_) (λgl=>?_)
 ·
  refine xKa (λH=>H) 6 12 22 rfl rfl rfl ?_ ?_ ?_
  ·refine jk (λH=>vG x N _ aA (H.a d6) ah (H.l 0 rfl)) λz=>qK (js [1] rfl ?_);exact fd ⟨_,_,_,z,d7,ai,d8,aj,ls⟩
  ·refine jRI [d,e,d] (by simp only[Ai,Ap,Au,implies_true,and_true];exact⟨i,t,i⟩) λv129=>qK (js [1,0,2] rfl ?_);exact bp ⟨_,_,_,_,_,_,d6,ah,d7,ai,d8,aj,ls⟩
  refine aK rfl λjm=>qK ?_;exact cr ⟨_,_,_,_,_,_,xO,xO,xO,d6,ah,d7,ai,d8,aj,ls⟩
 refine jdp (f:=7) (ls:=#[true,true,true,true,true,true,false,true,true,true,true,true,false,false,true,true,true,true,true,false,false,false,true,false]) (.n λd9=>.v λak=>.v λal=>.v λam=>.v λan=>.fa (xL 0) <| .fa (xL 0) <| .fa (xL 0) <| .fa (Bo B j (qS 2 vU) ak p) <| .fa (xL h) <| .fa (Bo B j (qS 2 vU) am p) <| .fa (xL h) <| .fa (Bo B j (qS 2 vU) an p) <| .fa (xL h) <| .st [(3,oK y),(6,xA d),(7,xA e),(8,oK d9),(17,ak),(18,xA h),(22,al),(24,am),(25,xA h),(26,xA d),(27,xA e),(28,xA d),(31,an),(32,xA h),(33,xA e),(34,xA d),(35,xA d)] [bx d9 [xA 0,xA 0,xA 0] 252,rl 1 xF 2 al ([d,d,e])]) (λd9 ak al am an ao aq ar da au db av dc aw=>?_) (λgm=>?_)
 ·
  refine xKa (λH=>H) 6 12 19 rfl rfl rfl ?_ ?_ ?_
  ·refine jk (λH=>vG x N _ aA (H.a da) au (H.l 1 rfl)) λz=>qK (js [0] rfl ?_);exact f6 ⟨_,_,_,ao,aq,ar,z,db,av,dc,aw,ls⟩
  ·refine jRI [d,e,d] (by simp only[Ai,Ap,Au,implies_true,and_true];exact⟨i,t,i⟩) λv137=>qK (js [1,2,0] rfl ?_);exact ci ⟨_,_,_,_,_,_,ao,aq,ar,da,au,db,av,dc,aw,ls⟩
  refine jRI [e,d,d] (by simp only[Ai,Ap,Au,implies_true,and_true];exact⟨t,i,i⟩) λv138=>qK (js [1,2,0] rfl ?_);exact cr ⟨_,_,_,_,_,_,ao,aq,ar,da,au,db,av,dc,aw,ls⟩
 refine xFg 0 rfl A1 λv140 L=>aW 1 rfl A2 λK=>zF [2,3,4] rfl (xFg 7 rfl A1 λv141 E=>aW 8 rfl A2 λA=>zF [9,10,11] rfl (xFg 14 rfl A1 λv143 G=>aW 15 rfl A2 λC=>zF [16,17,18] rfl (oKs (λH=>H) 5 12 19 22 rfl rfl rfl rfl ?_ ?_ ?_ ?_)))
 ·
  refine jRI [d,d,e] (by simp only[Ai,Ap,Au,implies_true,and_true];exact⟨i,i,t⟩) λia=>qK (oKs (λH=>H) 6 12 19 22 rfl rfl rfl rfl ?_ ?_ ?_ ?_)
  ·
   refine jk (λH=>vG x N _ aA (H.a L) K (H.l 0 rfl)) λz=>qK (xKa (λH=>H) 12 19 22 rfl rfl rfl ?_ ?_ ?_)
   ·refine jRI [d,e,d] (by simp only[Ai,Ap,Au,implies_true,and_true];exact⟨i,t,i⟩) λib=>qK (js [0] rfl ?_);exact f7 ⟨_,_,_,z,E,A,G,C,ls⟩
   ·refine jRI [e,d,d] (by simp only[Ai,Ap,Au,implies_true,and_true];exact⟨t,i,i⟩) λic=>qK (js [0] rfl ?_);exact fd ⟨_,_,_,z,E,A,G,C,ls⟩
   refine aK rfl λjn=>qK (js [0] rfl ?_);exact f6 ⟨_,_,_,xO,xO,xO,z,E,A,G,C,ls⟩
  ·refine jRI [d,e,d] (by simp only[Ai,Ap,Au,implies_true,and_true];exact⟨i,t,i⟩) λie=>qK (js [1,0] rfl ?_);exact gk ⟨_,_,_,_,_,L,K,E,A,G,C,ls⟩
  ·refine jRI [e,d,d] (by simp only[Ai,Ap,Au,implies_true,and_true];exact⟨t,i,i⟩) λig=>qK (js [1,0] rfl ?_);exact gl ⟨_,_,_,_,_,L,K,E,A,G,C,ls⟩
  refine aK rfl λjp=>qK ?_;exact gm ⟨_,_,_,_,_,xO,xO,xO,L,K,E,A,G,C,ls⟩
 ·
  refine jRI [d,e,d] (by simp only[Ai,Ap,Au,implies_true,and_true];exact⟨i,t,i⟩) λjq=>qK (xKa (λH=>H) 5 19 22 rfl rfl rfl ?_ ?_ ?_)
  ·refine jRI [d,d,e] (by simp only[Ai,Ap,Au,implies_true,and_true];exact⟨i,i,t⟩) λih=>qK ?_;exact gk ⟨_,_,_,_,_,L,K,E,A,G,C,ls⟩
  ·refine jRI [e,d,d] (by simp only[Ai,Ap,Au,implies_true,and_true];exact⟨t,i,i⟩) λii=>qK (js [1,0] rfl ?_);exact gj ⟨_,_,_,_,_,L,K,E,A,G,C,ls⟩
  refine aK rfl λjr=>qK ?_;exact g6 ⟨_,_,_,_,_,xO,xO,xO,L,K,E,A,G,C,ls⟩
 ·
  refine jRI [e,d,d] (by simp only[Ai,Ap,Au,implies_true,and_true];exact⟨t,i,i⟩) λij=>qK (xKa (λH=>H) 5 12 22 rfl rfl rfl ?_ ?_ ?_)
  ·refine jRI [d,d,e] (by simp only[Ai,Ap,Au,implies_true,and_true];exact⟨i,i,t⟩) λik=>qK ?_;exact gl ⟨_,_,_,_,_,L,K,E,A,G,C,ls⟩
  ·refine jRI [d,e,d] (by simp only[Ai,Ap,Au,implies_true,and_true];exact⟨i,t,i⟩) λil=>qK ?_;exact gj ⟨_,_,_,_,_,L,K,E,A,G,C,ls⟩
  refine aK rfl λju=>qK ?_;exact gf ⟨_,_,_,_,_,xO,xO,xO,L,K,E,A,G,C,ls⟩
 refine aK rfl λjv=>qK (xKa (λH=>H) 5 12 19 rfl rfl rfl ?_ ?_ ?_)
 ·refine jRI [d,d,e] (by simp only[Ai,Ap,Au,implies_true,and_true];exact⟨i,i,t⟩) λim=>qK (js [1,0] rfl ?_);exact gm ⟨_,_,_,_,_,xO,xO,xO,L,K,E,A,G,C,ls⟩
 ·refine jRI [d,e,d] (by simp only[Ai,Ap,Au,implies_true,and_true];exact⟨i,t,i⟩) λio=>qK (js [1,0] rfl ?_);exact g6 ⟨_,_,_,_,_,xO,xO,xO,L,K,E,A,G,C,ls⟩
 refine jRI [e,d,d] (by simp only[Ai,Ap,Au,implies_true,and_true];exact⟨t,i,i⟩) λip=>qK (js [1,0] rfl ?_);exact gf ⟨_,_,_,_,_,xO,xO,xO,L,K,E,A,G,C,ls⟩
def mG (N:Nat) (d:Int) (c:Op):Option Bool:= oZ (σ:=Bool) (if (c.arity==3) then  xG (aB N d 2 (λe=>cR e (Op.mk c.arity c.table) d)) λf=>some (.nx f) else  some (.nx false)) λh=>some h
theorem xGn {c j} (r) (p:mG N c j=some r) {d} (e) (hN:HN B e) (i:xL c) (t:Bo B e (qS 2 vU) d j):CG B e 203 #[xA c,d,.func (.func 204) #[] #[]] (.st (.bool r) λD=>D):=by
 unfold mG at p
 revert r
 refine vM func203 [(0,xA c),(1,d),(2,.func (.func 204) #[] #[])] hN λr=>?_;refine xI (jX e2 (λ_=>?_));obtain⟨E,rfl,x,y⟩:=vU.o t;refine jX e2 λ_=>jX e2 λ_=>xW 1 rfl (qZ (λz=>.st [(6,.bool z)] []) ?_ (λ_=>?_))
 ·
  refine lP (xZ e2 (jb 1 e3 (jA 2 rfl (fD 10 (λ_=>?_) (λ_=>?_)))))
  ·refine jb 2 e3 (dJ e2 (jB λA C=>(jk (λH=>nT A C _ aA i rH call243 (λF r h W f G f0=>xDu r h W aA f0 ((vU.b (H.g 1 rfl).bk x (H.a y)).w f) ((c1I (H.g 2 rfl).bk i).w f) ((H.g 0 rfl).bk.w f))) (xC 2 rfl (js [] rfl ?_)))));exact jf ls
  refine xC 5 rfl (js [] rfl ?_);exact jf ls
 refine nH ?_;exact qT (rt rfl) lv
def zN:Nat->Int->Op->Int->Option Bool | 0,_,_,_=>none | N+1,d,c,e=>if (e==1) then oZ (σ:=Unit) (qM (λB s=>match s with | _=>none) c.arity.toNat 0 ()) λ_=>some false else if (e==2) then none else if (e==3) then xG (aB N d 1 (λf=>nN f (Op.mk c.arity c.table) d)) λi=>some i else if (e==4) then none else if (e==5) then oZ (σ:=Bool) (if (c.arity==2) then  xG (cQ N d (Op.mk c.arity c.table)) λj=>some (.nx j) else  some (.nx false)) λp=>some p else if (e==6) then oZ (σ:=Bool) (xG (zN N d (Op.mk c.arity c.table) 3) λt=>if t then  xG (zN N d (Op.mk c.arity c.table) 5) λx=>if x then  xG (aB N d 3 (λf=>lH f (Op.mk c.arity c.table) d)) λh=>some (.nx h) else  some (.nx false) else  some (.nx false)) λy=>some y else if (e==7) then xG (mG N d (Op.mk c.arity c.table)) λz=>some z else if (e==8) then none else if (e==9) then none else xG (cQ N d (Op.mk c.arity c.table)) λA=>some A
theorem xJz:∀ (N:Nat) {B:Nat->Prop} {e:Int} {i:Op} {j:Int} (r:Bool) (t:zN N e i j=some r) {y:Vl} (z:Wd) (hN:HN B z) (c:xL e) (A:Bo B z (qS 2 vU) y i) (F:xL j),CG B z 138 #[xA e,y,xA j] (.st (.bool r) λD=>D):=by
 intro N
 induction N with
 | zero=>intro B e i j r t;unfold zN at t;cases t
 | succ N ih=>
 intro B e i j r t y z hN c A F;rw[zN] at t
 revert r
 refine vM func138 [(0,xA e),(1,y),(2,xA j)] hN λr=>?_;refine xI (jX e2 (λC=>?_));obtain⟨K,rfl,d,f⟩:=vU.o A;refine jX e2 λE=>xK 1 rfl (jo rfl (xJd (xC 2 rfl (xT ?_ ?_))))
 ·
  refine xR (xZ e2 (jb 0 e3 (xC 1 rfl (qZ (λ_=>.st [] []) ?_ (λ_=>?_)))))
  ·
   refine zK ?_;refine jc (λL _=>.st [(13,xA (L:Int)),(3,oK C),(4,oK E),(12,xA i.arity)] [bx E [xA i.arity,K] 85,bx C [xA e] 2]) ls (λ_ _ _ p=>?_) (λ_ _ _ p=>?_)
   ·have M:=vD p;refine xI (xW 1 rfl (kJ M (xN (js [] rfl ?_))));exact jf ls
   refine xI (xW 1 rfl (kO (qP p) (xY ?_)));have j1:=dT p d;have m1:=vY p d;refine qE (xW 2 rfl ?_);exact jno
  refine oO (bA 1 rfl ?_);exact qT (rt rfl) lv
 refine xI (xC 2 rfl (xT ?_ ?_))
 ·refine a_s ?_;exact jno
 refine xI (xC 2 rfl (xT ?_ ?_))
 ·refine xI (jb 1 e3 (dJ e2 (jB λO G=>(jk (λH=>nT O G _ aA c zL call197 (λP r h W x Q f0=>xHx r h W aA f0 ((vU.b (H.g 0 rfl).bk d (H.a f)).w x) ((c1I (H.g 1 rfl).bk c).w x))) (bA 1 rfl ?_)))));exact qT (rt rfl) lv
 refine xI (xC 2 rfl (xT ?_ ?_))
 ·refine a_s ?_;exact jno
 refine xI (xC 2 rfl (xT ?_ ?_))
 ·
  refine a_s (qZ (λR=>.st [(6,.bool R)] []) ?_ (λ_=>?_))
  ·
   refine lP (xZ e2 (jb 0 e3 (jA 2 rfl (fD 48 (λ_=>?_) (λ_=>?_)))))
   ·refine jb 1 e3 (aG 0 e3 (jB λS T=>?_));refine jk (λH=>uD S T _ aA c (vU.m d (H.a f))) (xC 2 rfl (js [] rfl ?_));exact jf ls
   refine xC 5 rfl (js [] rfl ?_);exact jf ls
  refine xLg ?_;exact qT (rt rfl) lv
 refine xI (xC 2 rfl (xT ?_ ?_))
 ·
  refine a_s (qZ (λU=>.st [(6,.bool U)] []) ?_ (λ_=>?_))
  ·
   refine lP (jb 1 e3 (aG 0 e3 (jB λX Y=>?_)));refine jk (λH=>ih X Y _ aA c (vU.m d (H.a f)) lL) (jo rfl (fD 58 (λ_=>?_) (λ_=>?_)))
   ·
    refine jb 1 e3 (aG 0 e3 (jB λZ c3=>?_));refine jk (λH=>ih Z c3 _ aA c (vU.m d (H.a f)) oKa) (jA 2 rfl (fD 63 (λ_=>?_) (λ_=>?_)))
    ·refine jb 1 e3 (dJ e2 (jB λI c4=>(jk (λH=>nT I c4 _ aA c lL call202 (λP r h W x Q f0=>xHy r h W aA f0 ((vU.b (H.g 0 rfl).bk d (H.a f)).w x) ((c1I (H.g 1 rfl).bk c).w x))) (xC 2 rfl (js [] rfl ?_)))));exact jf ls
    refine xC 5 rfl (js [] rfl ?_);exact jf ls
   refine xC 10 rfl (js [] rfl ?_);exact jf ls
  refine xLg ?_;exact qT (rt rfl) lv
 refine xI (xC 2 rfl (xT ?_ ?_))
 ·refine xI (jb 1 e3 (aG 0 e3 (jB λz5 c5=>?_)));refine jk (λH=>xGn z5 c5 _ aA c (vU.m d (H.a f))) (bA 1 rfl ?_);exact qT (rt rfl) lv
 refine xI (xC 2 rfl (xT ?_ ?_))
 ·refine a_s ?_;exact jno
 refine xI (xC 2 rfl (xT ?_ ?_))
 ·refine a_s ?_;exact jno
 refine wB (jb 1 e3 (aG 0 e3 (jB λz6 c6=>?_)));refine jk (λH=>uD z6 c6 _ aA c (vU.m d (H.a f))) (xS 1 rfl ?_);exact qT (rt rfl) lv
theorem xDc {d f e} (r) (p:zN N d f e=some r) {h} (c) (hN:HN B c) (i:xL d) (t:Bo B c (qS 2 vU) h f) (j:xL e):CG B c 138 #[xA d,h,xA e] (.st (.bool r) λD=>D):= xJz N r p c hN i t j
def cV (N:Nat) (c:Op) (d:A6) (e:Int):Option Bool:= xG (zN N d.size (Op.mk c.arity c.table) e) λf=>some f
theorem tW {h i j} (r) (t:cV N h i j=some r) {d e f} (c) (hN:HN B c) (x:Bo B c (qS 2 vU) d h) (y:Bo B c (Pt 2 xB) e i) (z:Bo B c (Pt 1 xF) f j):CG B c 137 #[d,e,f] (.st (.bool r) λD=>D):=by
 unfold cV at t
 revert r
 refine vM func137 [(0,d),(1,e),(2,f)] hN λr=>?_;refine xI ?_;obtain⟨K,rfl,A,C⟩:=vU.o x;refine jX e2 λ_=>xM 1 rfl (aF y xB.f0 λ_ p=>aP p λE=>aG 0 e3 (aP z λF=>jB λG I=>?_));refine jk (λH=>xDc G I _ aA E (vU.m A (H.a C)) F) (xS 1 rfl ?_);exact qT (rt rfl) lv
def fC (N:Nat) (c:Op) (d:A6) (e f:Int) (h:List Int):Option (Int×Int×(List Int)):= xG (cV N (Op.mk c.arity c.table) d e) λi=>if (!i) then some (0,f,h) else some ((-1),c.arity,c.table)
theorem wS {d:Op} {x:A6} {y h:Int} {z:List Int} (r:Int×Int×(List Int)) (K:fC N d x y h z=some r) {f:Vl} {i:Vl} {j:Vl} {p:Nat} {e:Nat} {A:Vl} {E:List Nat} (c:Wd) (hN:HN B c) (L:Sep E B c c [rl 1 xF 2 f d.table,bx e [xA h,A] 85,rl 1 xF 2 A z]) (t:xL d.arity) (G:Bo B c (Pt 2 xB) i x) (I:Bo B c (Pt 1 xF) j y) (M:Bk B c p [.func (.func 137) #[] #[i,j]] 193) (F:xL h):Calls prog 192 #[(.agg #[xA d.arity,f]),oK p,oK e] c (Gt B c E (.v λC=>.fa (xL r.1) <| .fa (xL r.2.1) <| .st (xA r.1) λD=>bx e [xA r.2.1,C] 85::rl 1 xF 2 C r.2.2::D)):=by
 unfold fC at K
 revert r
 refine jin func192 [(0,(.agg #[xA d.arity,f])),(1,oK p),(2,oK e)] L λr=>?_;refine xI (jX e2 λ_=>xK 1 rfl (jbK M e2 (aG 0 e3 (jB λO P=>?_))));refine jkV (lb:=[i,j]) call137 e2 (λH=>tW O P _ aA (vU.m t (H.l 1 rfl)) (H.a G) (H.a I)) (xC 1 rfl (xT ?_ ?_))
 ·refine xI (oE 1 rfl (js [2,3] rfl ?_));exact j1 (rt rfl) ⟨_,xO,F,lv⟩
 refine qR (aG 0 e3 (js [2,0,1,3] rfl ?_));refine zX (hv:=(λH=>oc rfl (oc (H.l 2 rfl).one on))) e3 (qW (xS 1 rfl (js [0,2] rfl ?_)));exact j1 (rt rfl) ⟨_,bC,t,lv⟩
def bG (e:Int) (D:List Rel) (E:Int) (f:List (List lookT)) (h:List (List Bool)) (F:List Int) (G:Int) (c:List Int):Option Bool:= xG (ck ((c.length:Int) - 1)) λi=>xG (ix f i) λj=>oZ (σ:=Unit) (oM (λH (d:lookT) s=>match s with | _=>oZ (σ:=Int) (oM (λI p t=>xG (ck (t*e)) λx=>xG (ix c p) λy=>xG (ck (x+y)) λz=>some (.go z)) d.cells 0 0) λA=>xG (ix h d.rel) λB=>xG (ix B A) λC=>if (!C) then some (.ret false) else some (.go ())) j 0 ()) λ_=>some true
theorem xDn {f:Int} {O:List Rel} {h:Int} {P:List (List lookT)} {Q:List (List Bool)} {R:List Int} {i:Int} {j:List Int} (r:Bool) (hR:bG f O h P Q R i j=some r) {d:Nat} {p:Vl} {t:Vl} {x:Vl} {y:Vl} {c:Vl} {S:List Nat} (e:Wd) (hN:HN B e) (S0:Sep S B e e [bx d [xA f,p,xA h,t,x,y,xA i,c] 240,rl 1 xF 2 c j]) (au:xL f) (av:Bo B e (Sl 2 oQ) p O) (aw:xL h) (a0:Bo B e (Sl 1 (kP 2 kE)) t P) (a1:Bo B e (Sl 1 (kP 1 aC)) x Q) (ax:Bo B e (Sl 1 xF) y R) (ay:xL i):Calls prog 236 #[oK d] e (Gt B e S (.st (.bool r) λD=>bx d [xA f,p,xA h,t,x,y,xA i,c] 240::rl 1 xF 2 c j::D)):=by
 unfold bG at hR
 revert r
 refine jin func236 [(0,oK d)] S0 λr=>?_;refine xI (jo rfl (nE (jQ (zA 2 rfl (sW e2 (jqb 0 e3 (zA 2 rfl (sW e2 (jqb 0 e3 (oIl (λH=>H.l 1 rfl) (λ_=>?_)))))))))));refine jB λz1 c1=>(jqv (λF H w l=>xBb F rfl rfl c1) (jB λG c2=>(lM a0 c2 λ_ h1=>eZ h1 λI T=>jqL T λU=>zA 1 rfl (nD (eD ?_)))));refine qZ (λ_=>.st [(0,oK d)] [bx d [xA f,p,xA h,t,x,y,xA i,c] 240,rl 1 xF 2 c j]) ?_ (λ_=>?_)
 ·
  refine zK ?_;refine jl (λz _=>.st [(21,xA (z:Int)),(0,oK d),(19,I),(20,xA (G.length:Int))] [bx d [xA f,p,xA h,t,x,y,xA i,c] 240,rl 1 xF 2 c j]) ls (λ_ _ _ q1=>?_) (λz K _ C y1=>?_)
  ·have l1:=oU q1;refine xI (xW 1 rfl (kJ l1 (xN ?_)));exact jf ls
  refine xI (xW 1 rfl (kO (xX C) (xY ?_)));have j2:=dS (Ah C) U;refine qE (jI T y1 λ_ h3=>jlA h3 λ_ h4=>aK rfl (λA=>?_));obtain⟨L,rfl,i2,M⟩:=kE.o h4;refine zX (hv:=(λH=>oc rfl (oc (H.a M).one on))) e3 (qW (xK 1 rfl (xZ e2 (jb 0 e3 (jL M λW=>xC 1 rfl ?_)))));refine qZ (λX=>.fa (xL X) <| .st [(0,oK d),(4,oK A),(5,xA X),(19,I),(20,xA (G.length:Int)),(21,xA (z:Int))] [bx A [xA K.rel,L] 243,bx d [xA f,p,xA h,t,x,y,xA i,c] 240,rl 1 xF 2 c j]) ?_ (λ_ _=>?_)
  ·
   refine zK ?_;refine jl (λY N=>.fa (xL N) <| .st [(28,xA (Y:Int)),(0,oK d),(4,oK A),(5,xA N),(19,I),(20,xA (G.length:Int)),(21,xA (z:Int)),(26,L),(27,xA (K.cells.length:Int))] [bx A [xA K.rel,L] 243,bx d [xA f,p,xA h,t,x,y,xA i,c] 240,rl 1 xF 2 c j]) ⟨xO,ls⟩ (λ_ N _ q2 i4=>?_) (λY _ _ E y2 _=>?_)
   ·have l2:=oU q2;refine xI (xW 1 rfl (kJ l2 (xN ?_)));exact jf ⟨i4,ls⟩
   refine xI (xW 1 rfl (kO (xX E) (xY ?_)));have j3:=dS (Ah E) W;refine qE (jI M y2 λ_ h6=>aP h6 λ_=>xC 1 rfl (js [2,0,1] rfl (cZ λ_ _ _ _ g1 _ a2 _=>(jQ (zA 3 rfl (sW e2 (sW e2 ?_)))))));refine jqb 1 e3 (jB λz3 c3=>(jqv (λF H w l=>yB F rfl rfl c3) (zA 2 rfl (sW e2 (jqb 1 e3 (zA 1 rfl (jB λz4 c4=>(lM g1.ld c4 λ_ h7=>kI h7 λ_=>jB λz5 Z=>?_))))))));refine jqv (λF H w l=>wH F rfl rfl Z) (zA 1 rfl (nD (aH (xU (qG E W) (xC 1 rfl (aI a2 (js [1,2,0] rfl ?_)))))));exact jg ⟨(kA Z),ls⟩
  refine xMp (jQ (zA 2 rfl (sW e2 (jqb 1 e3 (sW e2 (jqb 0 e3 (jB λz6 c6=>(lM a1 c6 λ_ h8=>eZ h8 λ_ h9=>zA 1 rfl ?_))))))));refine jB λz7 c7=>(lM h9 c7 λ_ a3=>oKl a3 (zA 1 rfl (nD (eD (xT ?_ ?_)))))
  ·refine xI (oY 1 rfl (fZ (zR (fH (lD (js [1,2] rfl ?_))))));exact j1 (rt rfl) lv
  refine qJ (xU (qG C U) (xC 1 rfl (js [1,2] rfl ?_)));exact jg ls
 refine oO (xS 1 rfl ?_);exact j1 (rt rfl) lv
def zE:Nat->Int->(List Rel)->Int->(List (List lookT))->(List (List Bool))->(List Int)->Int->(List Int)->A6->Int->Int->(List Int)->Option (Int×Int×(List Int)×Int×(List Int)) | 0,_,_,_,_,_,_,_,_,_,_,_,_=>none | N+1,j,E,p,F,G,e,H,c,A,B,C,D=>if ((c.length:Int)==(e.length:Int)) then xG (oH c) λW=>xG (fC N (Op.mk p W) A B C D) λt=>some (t.1,H,c,t.2.1,t.2.2) else oZ (σ:=Int×(List Int)×Int×(List Int)) (qM (λK s=>match s with | (f,x,h,i)=>oZ (σ:=Bool) (xG (ix e (c.length:Int)) λL=>if (decide (0<=L)) then  some (.nx (L != (K:Int))) else  some (.nx false)) λX=>if X then some (.go (f,x,h,i)) else if (f==6000) then some (.ret (7,f,x,h,i)) else xG (ck (f+1)) λy=>xG (ap x ([(K:Int)])) λz=>xG (bG j E p F G e y z) λY=>oZ (σ:=Int×Int×(List Int)×Int×(List Int)) (if Y then xG (zE N j E p F G e y z A B h i) λd=>some (.nx (d.1,d.2.1,d.2.2.1,d.2.2.2.1,d.2.2.2.2)) else some (.nx (0,y,z,h,i))) λ(M,O,Z,P,I)=>xG (sl Z 0 (c.length:Int)) λQ=>if (M != 0) then some (.ret (M,O,Q,P,I)) else some (.go (O,Q,P,I))) j.toNat 0 (H,c,C,D)) λ(R,S,T,U)=>some (0,R,S,T,U)
theorem xAq:∀ (N:Nat) {B:Nat->Prop} {d:Int} {U:List Rel} {h:Int} {W:List (List lookT)} {X:List (List Bool)} {Y:List Int} {I:Int} {y:List Int} {Q:A6} {R F:Int} {S:List Int} (r:Int×Int×(List Int)×Int×(List Int)) (L:zE N d U h W X Y I y Q R F S=some r) {e:Nat} {j:Vl} {p:Vl} {t:Vl} {x:Vl} {ad:Vl} {a4:Vl} {a5:Vl} {i:Nat} {c:Nat} {a6:Vl} {X0:List Nat} (f:Wd) (hN:HN B f) (S0:Sep X0 B f f [bx e [xA d,j,xA h,p,t,x,xA I,ad] 240,rl 1 xF 2 ad y,bx c [xA F,a6] 85,rl 1 xF 2 a6 S]) (G:xL d) (a9:Bo B f (Sl 2 oQ) j U) (T:xL h) (aa:Bo B f (Sl 1 (kP 2 kE)) p W) (ab:Bo B f (Sl 1 (kP 1 aC)) t X) (z:Bo B f (Sl 1 xF) x Y) (ac:xL I) (a7:Bo B f (Pt 2 xB) a4 Q) (a8:Bo B f (Pt 1 xF) a5 R) (ae:Bk B f i [.func (.func 137) #[] #[a4,a5]] 193) (a3:xL F),Calls prog 191 #[oK e,.func (.func 192) #[] #[oK i,oK c]] f (Gt B f X0 (.v λaq=>.v λar=>.fa (xL r.1) <| .fa (xL r.2.1) <| .fa (xL r.2.2.2.1) <| .st (xA r.1) λD=>bx e [xA d,j,xA h,p,t,x,xA r.2.1,aq] 240::rl 1 xF 2 aq r.2.2.1::bx c [xA r.2.2.2.1,ar] 85::rl 1 xF 2 ar r.2.2.2.2::D)):=by
 intro N
 induction N with
 | zero=>intro B d U h W X Y I y Q R F S r L;unfold zE at L;cases L
 | succ N ih=>
 intro B d U h W X Y I y Q R F S r L e j p t x ad a4 a5 i c a6 X0 f hN S0 G a9 T aa ab z ac a7 a8 ae a3;rw[zE] at L
 revert r
 refine jin func191 [(0,oK e),(1,.func (.func 192) #[] #[oK i,oK c])] S0 λr=>?_;refine xI (xM 1 rfl (jA 2 rfl (xZ e2 (jb 0 e3 (jLc (λH=>H.l 1 rfl) λ_=>xK 1 rfl (jA 3 rfl (xZ e2 ?_)))))));refine jb 0 e3 (jL z λ_=>xC 1 rfl (xT ?_ ?_))
 ·refine a_s (jB λz1 c1=>(jB λz2 c2=>(cZ λw1 X1 N1 _ g1 af b5 _=>?_)));have K1:=g1.bk;refine jD (zF [0,1,2] rfl (kB 3 rfl e2 (iG 4 rfl K1 e2 (zF [5,6] rfl (kB 7 rfl e2 (iG 8 rfl K1 e2 (jE 9 rfl (jk (λH=>qO z1 c1 _ aA (H.l 0 rfl)) λv1=>qK (jE 10 rfl ?_)))))))));refine oV (hone:=(λH=>oc rfl (oc (H.l 0 rfl).one on))) e5 (qK (jE 11 rfl (js [0,2,3,1] rfl ?_)));refine jkoV 3 (lb:=[oK i,oK c]) call192 e2 (λK2 H=>wS z2 c2 _ H.hN K2 T (H.u (af a7)) (H.u (af a8)) ((ae.lf af).to H.sm) a3) λv2 i1 i2=>qK (zF [12] rfl (iT (xRf (aI b5 (js [0,3,1,2] rfl ?_)))));exact j1 (rt rfl) ⟨_,_,i1,ac,i2,lv⟩
 refine vT (jA 2 rfl (xZ e2 (xZ e2 (jb 0 e3 (xC 1 rfl ?_)))));refine qZ (λ(s1,s2,s3,s4)=>.v λv3=>.v λv4=>.fa (xL s1) <| .fa (xL s3) <| .st [(0,oK e),(1,.func (.func 192) #[] #[oK i,oK c])] [bx e [xA d,j,xA h,p,t,x,xA s1,v3] 240,rl 1 xF 2 v3 s2,bx c [xA s3,v4] 85,rl 1 xF 2 v4 s4]) ?_ (λ(s1,s2,s3,s4) v3 v4 i3 i4=>?_)
 ·
  refine zK ?_;refine jc (λM (O,Z,P,s8)=>.v λA=>.v λC=>.fa (xL O) <| .fa (xL P) <| .st [(37,xA (M:Int)),(0,oK e),(1,.func (.func 192) #[] #[oK i,oK c]),(5,xA (y.length:Int)),(36,xA d)] [bx e [xA d,j,xA h,p,t,x,xA O,A] 240,rl 1 xF 2 A Z,bx c [xA P,C] 85,rl 1 xF 2 C s8]) ⟨_,_,ac,a3,ls⟩ (λ_ (O,Z,P,s8) _ K A C i5 E=>?_) (λ_ M (O,Z,P,s8) K A C i5 E=>?_)
  ·have l1:=vD K;refine xI (xW 1 rfl (kJ l1 (xN ?_)));exact jf ⟨_,_,i5,E,ls⟩
  refine xI (xW 1 rfl (kO (qP K) (xY ?_)));have m1:=vY K G;refine qE (jA 2 rfl (nE ?_));refine qZ (λs9=>.st [(0,oK e),(1,.func (.func 192) #[] #[oK i,oK c]),(5,xA (y.length:Int)),(6,xA (M:Int)),(36,xA d),(37,xA (M:Int)),(58,.bool s9)] [bx e [xA d,j,xA h,p,t,x,xA O,A] 240,rl 1 xF 2 A Z,bx c [xA P,C] 85,rl 1 xF 2 C s8]) ?_ (λ_=>?_)
  ·
   refine lP (jA 2 rfl (xZ e2 (jb 0 e3 (jo rfl (jB λz3 c3=>(jI z c3 λ_ h1=>aP h1 λ_=>jA 2 rfl (fD 48 (λ_=>?_) (λ_=>?_))))))))
   ·refine jA 2 rfl (xZ e2 (jb 0 e3 (jo rfl (jI z c3 λ_ h2=>aP h2 λ_=>xC 3 rfl ?_))));exact jf ls
   refine xC 10 rfl ?_;exact jf ls
  refine eD (xT ?_ ?_)
  ·refine xPr (xU m1 (xC 1 rfl ?_));exact jg ⟨_,_,i5,E,ls⟩
  refine vT (jA 2 rfl (xZ e2 (jb 0 e3 (xC 1 rfl (xT ?_ ?_)))))
  ·refine xI (jo rfl (rO (fZ (zR (fH (lD ?_))))));exact j1 (rt rfl) ⟨_,_,xNf,i5,E,lv⟩
  refine qR (jA 2 rfl (xZ e2 (jb 0 e3 (jB λz4 c4=>(bN c4 (jo rfl (xZ e2 (jW e3 (qW (jA 3 rfl ?_))))))))));refine xZ e2 (jb 0 e3 (jo rfl (lQ (λH=>Eo.int (dT K G)) λ_=>jB λz5 c5=>(js [2,0,1,3,4] rfl (jPL c5 λv7=>jo rfl (xZ e2 (js [1,0,2,3] rfl (jW (hv:=(λH=>(H.l 1 rfl).one)) e3 ?_))))))));refine qW (xK 1 rfl (jo rfl (jB λz6 c6=>(jko 2 (λK3 H=>xDn z6 c6 _ H.hN K3 G (H.u a9) T (H.u aa) (H.u ab) (H.u z) (kA c4)) (kD ?_)))));refine qZ (λ(ag,ah,au,ai,av)=>.v λv8=>.v λv9=>.fa (xL ag) <| .fa (xL ah) <| .fa (xL ai) <| .st [(0,oK e),(1,.func (.func 192) #[] #[oK i,oK c]),(5,xA (y.length:Int)),(7,xA ag),(36,xA d),(37,xA (M:Int))] [bx e [xA d,j,xA h,p,t,x,xA ah,v8] 240,rl 1 xF 2 v8 au,bx c [xA ai,v9] 85,rl 1 xF 2 v9 av]) ?_ (λ(ag,ah,au,ai,av) _ v9 i7 i8 i9=>?_)
  ·
   refine xT ?_ ?_
   ·refine lP (jA 2 rfl (jB λz7 c7=>(jko 4 (λK4 H=>ih z7 c7 _ H.hN K4 G (H.u a9) T (H.u aa) (H.u ab) (H.u z) (kA c4) (H.u a7) (H.u a8) (ae.to H.sm) E) λv10 v11 b6 b7 b8=>xC 1 rfl ?_)));exact jf ⟨_,_,b6,b7,b8,ls⟩
   refine xTx ?_;exact jf ⟨_,_,xO,(kA c4),E,ls⟩
  refine oO (jA 3 rfl (xZ e2 (jb 0 e3 (jo rfl (jB λz8 c8=>(js [1,0,2,3] rfl (jh (λH=>H.lw) (jT c8 λv12=>jh (λH=>H.tl) (jo rfl ?_)))))))));refine xZ e2 (js [1,0,2,3] rfl (jW (hv:=(λH=>(H.l 1 rfl).one)) e3 (qW (xC 2 rfl (xT ?_ ?_)))))
  ·refine xI (oY 2 rfl (fZ (zR (fH (lD ?_)))));exact j1 (rt rfl) ⟨_,_,i7,i8,i9,lv⟩
  refine qJ (xU m1 (xC 1 rfl ?_));exact jg ⟨_,_,i8,i9,ls⟩
 refine oO (xS 1 rfl ?_);exact j1 (rt rfl) ⟨_,_,xO,i3,i4,lv⟩
theorem xAv {d:Int} {I:List Rel} {e:Int} {K:List (List lookT)} {L:List (List Bool)} {M:List Int} {i:Int} {O:List Int} {z:A6} {A f:Int} {C:List Int} (r:Int×Int×(List Int)×Int×(List Int)) (hR:zE N d I e K L M i O z A f C=some r) {y:Nat} {j:Vl} {p:Vl} {t:Vl} {x:Vl} {P:Vl} {E:Vl} {F:Vl} {H:Nat} {h:Nat} {G:Vl} {S:List Nat} (c:Wd) (hN:HN B c) (S0:Sep S B c c [bx y [xA d,j,xA e,p,t,x,xA i,P] 240,rl 1 xF 2 P O,bx h [xA f,G] 85,rl 1 xF 2 G C]) (X:xL d) (Y:Bo B c (Sl 2 oQ) j I) (Z:xL e) (a0:Bo B c (Sl 1 (kP 2 kE)) p K) (a1:Bo B c (Sl 1 (kP 1 aC)) t L) (a2:Bo B c (Sl 1 xF) x M) (a3:xL i) (U:Bo B c (Pt 2 xB) E z) (W:Bo B c (Pt 1 xF) F A) (a4:Bk B c H [.func (.func 137) #[] #[E,F]] 193) (T:xL f):Calls prog 191 #[oK y,.func (.func 192) #[] #[oK H,oK h]] c (Gt B c S (.v λQ=>.v λR=>.fa (xL r.1) <| .fa (xL r.2.1) <| .fa (xL r.2.2.2.1) <| .st (xA r.1) λD=>bx y [xA d,j,xA e,p,t,x,xA r.2.1,Q] 240::rl 1 xF 2 Q r.2.2.1::bx h [xA r.2.2.2.1,R] 85::rl 1 xF 2 R r.2.2.2.2::D)):= xAq N r hR c hN S0 X Y Z a0 a1 a2 a3 U W a4 T
def gQ (N:Nat) (d:Int) (e:List Rel) (f:Int) (h:List (List lookT)) (i:List (List Bool)) (j:List Int) (p:Int) (t:List Int) (x:A6) (y:Int):Option (Op×Int×Int×(List Int)):= xG (zE N d e f h i j p t x y 0 ([])) λc=>if (c.1==(-1)) then some ((Op.mk c.2.2.2.1 c.2.2.2.2),0,c.2.1,c.2.2.1) else if (c.1==0) then some ((Op.mk 0 ([])),6,c.2.1,c.2.2.1) else some ((Op.mk 0 ([])),c.1,c.2.1,c.2.2.1)
theorem xAs {e:Int} {E:List Rel} {f:Int} {F:List (List lookT)} {G:List (List Bool)} {I:List Int} {i:Int} {K:List Int} {L:A6} {M:Int} (r:Op×Int×Int×(List Int)) (hR:gQ N e E f F G I i K L M=some r) {h:Nat} {j:Vl} {p:Vl} {t:Vl} {x:Vl} {O:Vl} {y:Vl} {z:Vl} {R:List Nat} (c:Wd) (hN:HN B c) (S0:Sep R B c c [bx h [xA e,j,xA f,p,t,x,xA i,O] 240,rl 1 xF 2 O K]) (S:xL e) (T:Bo B c (Sl 2 oQ) j E) (U:xL f) (W:Bo B c (Sl 1 (kP 2 kE)) p F) (X:Bo B c (Sl 1 (kP 1 aC)) t G) (Y:Bo B c (Sl 1 xF) x I) (Z:xL i) (a0:Bo B c (Pt 2 xB) y L) (a1:Bo B c (Pt 1 xF) z M):Calls prog 136 #[oK h,.func (.func 137) #[] #[y,z]] c (Gt B c R (.v λP=>.v λQ=>.fa (xL r.1.arity) <| .fa (xL r.2.1) <| .fa (xL r.2.2.1) <| .st (.tuple #[.agg #[xA r.1.arity,P],xA r.2.1]) λD=>rl 1 xF 2 P r.1.table::bx h [xA e,j,xA f,p,t,x,xA r.2.2.1,Q] 240::rl 1 xF 2 Q r.2.2.2::D)):=by
 unfold gQ at hR
 revert r
 refine jin func136 [(0,oK h),(1,.func (.func 137) #[] #[y,z])] S0 λr=>?_;refine xI (jX e2 λ_=>aK rfl λb1=>xM 1 rfl (oV e5 (aK rfl λb2=>zX e3 (qW (jo rfl (dJ e2 ?_))))));refine jh (λH=>H.nl 1 xF 2) (js [3,0,1,2,4,5] rfl (cZ λw1 X1 ab _ g1 d A _=>?_));have K1:=g1.bk;refine jB λz1 c1=>(js [3,4,1,0,2] rfl (jko 4 (λK2 H=>xAv z1 c1 _ H.hN K2 S (H.u (d T)) U (H.u (d W)) (H.u (d X)) (H.u (d Y)) Z (H.u (d a0)) (H.u (d a1)) (K1.to H.sm) xO) λv1 v2 i1 C i3=>xK 1 rfl (jo rfl (xJd (xC 2 rfl (xT ?_ ?_))))))
 ·refine xI (aG 2 e3 (js [4,0,1,2,3] rfl ?_));refine zX (hv:=(λH=>oc rfl (oc (H.l 4 rfl).one on))) e3 (bA 1 rfl (aI A ?_));exact nJ (λH=>H.s [5,2,3] rfl rfl) (dA 1 e2) (rt rfl) ⟨_,_,i3,xO,C,lv⟩
 refine xI (xC 2 rfl (xT ?_ ?_))
 ·refine xI (oV e5 (js [4,0,1,2,3] rfl (zX e3 (bA 1 rfl (aI A ?_)))));exact nJ (λH=>(H.nl 1 xF 2).s [0,3,4] rfl rfl) (dA 1 e2) (rt rfl) ⟨_,_,xO,sS,C,lv⟩
 refine wB (oV e5 (jo rfl (js [4,0,1,2,3] rfl (zX e3 (xS 1 rfl (aI A ?_))))));exact nJ (λH=>(H.nl 1 xF 2).s [0,3,4] rfl rfl) (dA 1 e2) (rt rfl) ⟨_,_,xO,i1,C,lv⟩
end Go.Proofs.YtnjlbbfcngjhmaaGreat
