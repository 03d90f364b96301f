import Derived.Test.YtnjlbbfcngjhmaaGreatJP
namespace Go.Proofs.YtnjlbbfcngjhmaaGreat
set_option linter.unusedVariables false
set_option linter.unusedSimpArgs false
set_option maxHeartbeats 1000000
set_option maxRecDepth 100000
open Go.RowKit
variable {B:Nat->Prop}
def zO (c:List Int):Option (List Int):= xG (ap ([]) c) λd=>some d
theorem eA {f} (r) (h:zO f=some r) {c} (d) (hN:HN B d) (i:Bo B d (Sl 1 xF) c f):CG B d 162 #[c] (.v λe=>.st (e) λD=>rl 1 xF 2 e r::D):=by
 unfold zO at h
 revert r
 refine vM Tryz.func162 [(0,c)] hN λr=>?_;refine xI (xM 1 rfl (jR0 xF λ_=>jo rfl (jB λp j=>(jh (λH=>H.lw) (jPf (λH=>H.a i) j λt=>jh (λH=>H.tl) (xS 1 rfl ?_))))));exact j1 (rt rfl) ⟨_,lv⟩
def rE (c:B1):Option (List A9):= oZ (σ:=List A9) (oM (λd (e:A8) h=>xG (zO e.left) λi=>xG (pN (0:Int) (c.list.length:Int)) λf=>xG (ix f (d:Int)) λt=>xG (ap h ([(A9.mk i e.right (f.set ((d:Int)).toNat 1))])) λj=>some (.go j)) c.list 0 []) λp=>some p
theorem xJg {y} (r) (hR:rE y=some r) {h} (z) (hN:HN B z) (e:Bo B z (Pt 3 oR) h y):CG B z 181 #[h] (.v λX=>.st (X) λD=>rl 3 qC 177 X r::D):=by
 unfold rE at hR
 revert r
 refine vM Tryz.func181 [(0,h)] hN λr=>?_;refine xI (xM 1 rfl (jR0 qC λv1=>xK 1 rfl (xC 1 rfl (qZ (λs1=>.v λL=>.st [(3,L)] [rl 3 qC 177 L s1]) ?_ (λ_ L=>?_)))))
 ·
  refine zK ?_;refine jl (λp i=>.v λc=>.st [(4,xA (p:Int)),(0,h),(3,c)] [rl 3 qC 177 c i]) ⟨_,ls⟩ (λ_ i _ q1 c=>?_) (λp d i F Z c=>?_)
  ·have l1:=oU q1;refine xR (jA 2 rfl (jN e (aF e oR.f2 λ_ h1=>aR h1 λ_ h2=>jL h2 λ_=>xC 1 rfl (kJ l1 (xN ?_)))));exact jf ⟨_,ls⟩
  refine xR (jA 2 rfl (jN e (aF e oR.f2 λ_ h3=>aR h3 λ_ h4=>jL h4 λi1=>xC 1 rfl (kO (xX F) (xY ?_)))));have j2:=dS (Ah F) i1;refine uV (jB λj A=>(jB λC E=>(jD ?_)));refine jdp (f:=1) (ls:=#[true,true,true,true,true,true,true,true,true,true,true,true,true,true,true,true,true,true,true,true,true,true,true,true,true,false]) (.n λb1=>.v λM=>.v λN=>.fa (xL d.right) <| .st [(0,h),(3,c),(4,xA (p:Int)),(5,oK b1),(39,(.agg #[M,xA d.right,N]))] [bx b1 [kW,xA 0,kW] 177,rl 1 xF 2 M j,rl 1 xF 2 N C,rl 3 qC 177 c i]) (λ_ M N i2=>?_) (λH1=>?_)
  ·refine jE 25 rfl ?_;refine zX (hv:=(λH=>oc (H.l 1 rfl).one (oc rfl (oc (H.l 2 rfl).one on)))) e3 (qK (iT (oO (xZ e2 (jb 0 e3 (jo rfl (jB λz3 c3=>(jRl 2 c3 λ_ a9=>js [2,0,1,3] rfl (jh (λH=>H.lw) ?_)))))))));refine jS a9 (dL c3) (λH=>Eo.int zL) rfl (jh (λH=>H.tl) (lT (jo rfl (aG 1 e3 (js [2,0,1,3] rfl (jh (λH=>qC.w i2 H) (uL (λH=>El.agg) λ_=>jB λz4 c4=>(js [2,0,1] rfl (jPL c4 (λv6=>?_))))))))));refine kZ 1 rfl (jo rfl (xU (qG F i1) (xC 1 rfl (js [0] rfl ?_))));exact jg ⟨_,ls⟩
  refine jdp (f:=2) (ls:=#[true,true,true,true,true,true,true,true,true,true,true,true,true,true,true,true,true,true,true,true,true,true,true,false,true,false]) (.n λO=>.v λP=>.v λQ=>.fa (xL d.right) <| .st [(0,h),(3,c),(4,xA (p:Int)),(5,oK O),(24,P),(32,xA d.right),(38,Q)] [bx O [kW,xA 0,kW] 177,rl 1 xF 2 P j,rl 1 xF 2 Q C,rl 3 qC 177 c i]) (λO P Q i3=>?_) (λS=>?_)
  ·refine jE 23 rfl ?_;refine oV (hone:=(λH=>oc (H.l 1 rfl).one (oc rfl (oc (H.l 2 rfl).one on)))) e5 (qK ?_);exact H1 ⟨_,_,_,i3,ls⟩
  refine jdp (f:=3) (ls:=#[true,true,true,true,true,true,true,true,true,true,true,true,true,true,true,true,true,true,true,true,true,true,true,false,false,false]) (.v λT=>.v λG=>.fa (xL d.right) <| .st [(0,h),(3,c),(4,xA (p:Int)),(24,T),(32,xA d.right),(38,G)] [rl 1 xF 2 T j,rl 1 xF 2 G C,rl 3 qC 177 c i]) (λT G i4=>?_) (λH3=>?_)
  ·
   refine eG (λH=>H) 23 24 rfl rfl ?_ ?_
   ·refine oV (hone:=(λH=>oc (H.l 0 rfl).one (oc rfl (oc (H.l 1 rfl).one on)))) e5 (qK (jE 24 rfl (aK rfl λb3=>qK ?_)));exact H1 ⟨_,_,_,i4,ls⟩
   refine aK rfl λb4=>qK ?_;exact S ⟨_,_,_,i4,ls⟩
  refine jdp (f:=3) (ls:=#[true,true,true,true,true,true,true,true,true,true,true,true,true,true,true,true,true,true,true,true,true,true,false,false,true,false]) (.n λU=>.v λI=>.fa (xL d.right) <| .fa (xL (y.list.length:Int)) <| .st [(0,h),(3,c),(4,xA (p:Int)),(5,oK U),(24,I),(32,xA d.right),(37,xA (y.list.length:Int))] [bx U [kW,xA 0,kW] 177,rl 1 xF 2 I j,rl 3 qC 177 c i]) (λU I i5 _=>?_) (λH4=>?_)
  ·refine jE 22 rfl ?_;refine jRM (R:=xF) (λw=>⟨rfl,by decide,rfl⟩) E λv13=>qK (js [1,2,0,3] rfl ?_);exact S ⟨_,_,_,i5,ls⟩
  refine jdp (f:=3) (ls:=#[true,true,true,true,true,true,true,true,false,true,true,true,true,true,true,true,true,true,true,true,true,true,true,false,true,false]) (.n λW=>.v λY=>.v λK=>.fa (Bo B z (Sl 1 xF) Y d.left) <| .fa (xL d.right) <| .st [(0,h),(3,c),(4,xA (p:Int)),(5,oK W),(23,Y),(32,xA d.right),(38,K)] [bx W [kW,xA 0,kW] 177,rl 1 xF 2 K C,rl 3 qC 177 c i]) (λW _ K h5 i6=>?_) (λH5=>?_)
  ·refine jE 8 rfl (jk (λH=>eA j A _ aA (H.a h5)) λb2=>qK (js [1,0,2,3] rfl ?_));exact S ⟨_,_,_,i6,ls⟩
  refine zF [0] rfl (jvN 1 rfl e (iO 2 rfl e oR.f2 λ_ h6=>rK 3 rfl h6 λ_ h7=>zF [4] rfl (pQ 5 rfl h7 Z λ_ h8=>iO 6 rfl h8 xJ.f0 λ_ h9=>rK 7 rfl h9 λv17 x=>zF [9] rfl (jvN 10 rfl e (iO 11 rfl e oR.f2 (λ_ aa=>?_))))));refine rK 12 rfl aa λ_ ab=>zF [13] rfl (pQ 14 rfl ab Z λ_ ac=>iO 15 rfl ac xJ.f1 λ_ ad=>aW 16 rfl ad λt=>zF [17] rfl (jvN 18 rfl e (iO 19 rfl e oR.f2 λ_ ae=>rK 20 rfl ae λ_ af=>jvL 21 rfl af λi8=>xKa (λH=>H) 8 22 24 rfl rfl rfl ?_ ?_ ?_)))
  ·
   refine jk (λH=>eA j A _ aA (H.a x)) λv18=>qK (eG (λH=>H) 22 24 rfl rfl ?_ ?_)
   ·refine jRM (R:=xF) (λw=>⟨rfl,by decide,rfl⟩) E λb5=>qK (js [1,0,2] rfl ?_);exact H3 ⟨_,_,t,ls⟩
   refine aK rfl λb7=>qK ?_;exact H4 ⟨_,_,t,i8,ls⟩
  ·
   refine jRM (R:=xF) (λw=>⟨rfl,by decide,rfl⟩) E λb6=>qK (eG (λH=>H) 8 24 rfl rfl ?_ ?_)
   ·refine jk (λH=>eA j A _ aA (H.a x)) λv21=>qK ?_;exact H3 ⟨_,_,t,ls⟩
   refine aK rfl λb8=>qK ?_;exact H5 ⟨_,_,_,x,t,ls⟩
  refine aK rfl λb9=>qK (eG (λH=>H) 8 22 rfl rfl ?_ ?_)
  ·refine jk (λH=>eA j A _ aA (H.a x)) λv22=>qK (js [1,0,2] rfl ?_);exact H4 ⟨_,_,t,i8,ls⟩
  refine jRM (R:=xF) (λw=>⟨rfl,by decide,rfl⟩) E λv23=>qK (js [1,0,2] rfl ?_);exact H5 ⟨_,_,_,x,t,ls⟩
 refine oO (xS 2 rfl ?_);exact j1 (rt rfl) ⟨_,lv⟩
def zZ (c d e:Int):Option Bool:= oZ (σ:=Bool) (if (decide (d<=c)) then  some (.nx (decide (c<=e))) else  some (.nx false)) λf=>some f
theorem kH {c d e} (r) (h:zZ c d e=some r) (f) (hN:HN B f) (j:xL c) (p:xL d) (t:xL e):CG B f 20 #[xA c,xA d,xA e] (.st (.bool r) λD=>D):=by
 unfold zZ at h
 revert r
 refine vM Tryz.func20 [(0,xA c),(1,xA d),(2,xA e)] hN λr=>?_;refine xI (xW 1 rfl (qZ (λi=>.st [(6,.bool i)] []) ?_ (λ_=>?_)))
 ·
  refine lP (jA 4 rfl (fD 10 (λ_=>?_) (λ_=>?_)))
  ·refine xC 5 rfl ?_;exact jf ls
  refine xC 5 rfl ?_;exact jf ls
 refine nH ?_;exact qT (rt rfl) lv
def eE (c:Int):Option Bool:= oZ (σ:=Bool) (if (c==2) then  some (.nx true) else  some (.nx (c==3))) λd=>some d
theorem sI {c} (r) (e:eE c=some r) (d) (hN:HN B d) (h:xL c):CG B d 59 #[xA c] (.st (.bool r) λD=>D):=by
 unfold eE at e
 revert r
 refine vM Tryz.func59 [(0,xA c)] hN λr=>?_;refine xI (xW 1 rfl (qZ (λf=>.st [(2,.bool f)] []) ?_ (λ_=>?_)))
 ·
  refine lP (jA 3 rfl (fD 5 (λ_=>?_) (λ_=>?_)))
  ·refine xC 4 rfl ?_;exact jf ls
  refine xC 4 rfl ?_;exact jf ls
 refine nH ?_;exact qT (rt rfl) lv
def kF (d c:Int):Option Int:= xG (rm d c) λe=>xG (ck (e+c)) λf=>xG (rm f c) λh=>some h
theorem lB {c d} (r) (j:kF c d=some r) (f) (hN:HN B f) (t:xL c) (i:xL d):CG B f 108 #[xA c,xA d] (.fa (xL r) <| .st (xA r) λD=>D):=by
 unfold kF at j
 revert r
 refine vM Tryz.func108 [(0,xA c),(1,xA d)] hN λr=>?_;refine xI (xM 1 rfl (jA 2 rfl (jB λx p=>(xNy p (jo rfl (jB λy h=>(bN h (jo rfl (jB λz e=>?_)))))))));refine xNy e (xS 1 rfl ?_);exact qT (rt rfl) ⟨(xGs e (kA h) i),lv⟩
def gS (d e:Int) (c:A8):Option Bool:= oZ (σ:=Bool) (if ((c.left.length:Int) != e) then  some (.nx true) else  xG (ck (d - 1)) λf=>xG (zZ c.right 0 f) λh=>some (.nx (!h))) λi=>if i then some false else oZ (σ:=Unit) (oM (λx (j:Int) s=>match s with | _=>xG (ck (d - 1)) λp=>xG (zZ j 0 p) λt=>if (!t) then some (.ret false) else some (.go ())) c.left 0 ()) λ_=>some true
theorem xDw {d f j} (r) (A:gS d f j=some r) {e} (i) (hN:HN B i) (Z:xL d) (a0:xL f) (c:Bo B i (Pt 2 xJ) e j):CG B i 180 #[xA d,xA f,e] (.st (.bool r) λD=>D):=by
 unfold gS at A
 revert r
 refine vM Tryz.func180 [(0,xA d),(1,xA f),(2,e)] hN λr=>?_;refine xI (jo rfl (nE (qZ (λC=>.st [(0,xA d),(2,e),(24,.bool C)] []) ?_ (λ_=>?_))))
 ·
  refine lP (jo rfl (jN c (aF c xJ.f0 λ_ E=>aR E λ_ F=>jL F λ_=>jA 3 rfl (fD 15 (λ_=>?_) (λ_=>?_)))))
  ·refine xC 9 rfl ?_;exact jf ls
  refine jo rfl (jN c (aF c xJ.f1 λ_ G=>aP G λI=>jo rfl (jB λz1 p=>(gM p (jB λK L=>(jk (λH=>kH K L _ aA I xO (kA p)) (xC 2 rfl ?_)))))));exact jf ls
 refine eD (xT ?_ ?_)
 ·refine xI (oE 1 rfl ?_);exact qT (rt rfl) lv
 refine vT (xC 1 rfl (qZ (λ_=>.st [] []) ?_ (λ_=>?_)))
 ·
  refine zK (jl (λt _=>.st [(7,xA (t:Int)),(0,xA d),(2,e)] []) ls (λ_ _ _ M=>?_) (λt _ _ h N=>?_))
  ·have O:=oU M;refine xR (jA 2 rfl (jN c (aF c xJ.f0 λ_ P=>aR P λ_ Q=>jL Q λ_=>xC 1 rfl (kJ O (xN ?_)))));exact jf ls
  refine xR (jA 2 rfl (jN c (aF c xJ.f0 λ_ R=>aR R λ_ S=>jL S λx=>xC 1 rfl (kO (xX h) (xY ?_)))));have j1:=dS (Ah h) x;refine qE (jo rfl (jN c (aF c xJ.f0 λ_ T=>aR T λ_ U=>jo rfl (jI U N λ_ z=>aP z λW=>jo rfl (jB λz3 y=>(gM y ?_))))));refine jB λX Y=>(jk (λH=>kH X Y _ aA W xO (kA y)) (xC 1 rfl (xT ?_ ?_)))
  ·refine xI (oY 1 rfl (fZ (zR (fH (lD ?_)))));exact qT (rt rfl) lv
  refine qJ (jo rfl (xU (qG h x) (xC 1 rfl ?_)));exact jg ls
 refine oO (xS 1 rfl ?_);exact qT (rt rfl) lv
def rM (c:B1):Option Bool:= oZ (σ:=Bool) (xG (eE c.prime) λd=>if (!d) then  some (.nx true) else  xG (zZ c.unknowns 1 12) λe=>if (!e) then  some (.nx true) else  some (.nx (decide (24<(c.list.length:Int))))) λf=>if f then some false else oZ (σ:=Unit) (oM (λj (h:A8) s=>match s with | _=>xG (gS c.prime c.unknowns h) λi=>if (!i) then some (.ret false) else some (.go ())) c.list 0 ()) λ_=>some true
theorem xEn {h} (r) (z:rM h=some r) {d} (f) (hN:HN B f) (c:Bo B f (Pt 3 oR) d h):CG B f 118 #[d] (.st (.bool r) λD=>D):=by
 unfold rM at z
 revert r
 refine vM Tryz.func118 [(0,d)] hN λr=>?_;refine xI (jo rfl (nE (qZ (λA=>.st [(0,d),(25,.bool A)] []) ?_ (λ_=>?_))))
 ·
  refine lP (jo rfl (jN c (aF c oR.f0 λ_ C=>aP C λE=>jB λF G=>(jk (λH=>sI F G _ aA E) (jA 2 rfl (fD 10 (λ_=>?_) (λ_=>?_)))))))
  ·refine xC 15 rfl ?_;exact jf ls
  refine jo rfl (jN c (aF c oR.f1 λ_ I=>aP I λK=>jB λL M=>(jk (λH=>kH L M _ aA K zL xYi) (jA 3 rfl (fD 18 (λ_=>?_) (λ_=>?_))))))
  ·refine xC 7 rfl ?_;exact jf ls
  refine jo rfl (jN c (aF c oR.f2 λ_ N=>aR N λ_ O=>jL O λ_=>xC 2 rfl ?_));exact jf ls
 refine eD (xT ?_ ?_)
 ·refine xI (oE 1 rfl ?_);exact qT (rt rfl) lv
 refine vT (xC 1 rfl (qZ (λ_=>.st [] []) ?_ (λ_=>?_)))
 ·
  refine zK (jl (λi _=>.st [(3,xA (i:Int)),(0,d)] []) ls (λ_ _ _ P=>?_) (λi _ _ e Q=>?_))
  ·have R:=oU P;refine xR (jA 2 rfl (jN c (aF c oR.f2 λ_ S=>aR S λ_ T=>jL T λ_=>xC 1 rfl (kJ R (xN ?_)))));exact jf ls
  refine xR (jA 2 rfl (jN c (aF c oR.f2 λ_ U=>aR U λ_ W=>jL W λj=>xC 1 rfl (kO (xX e) (xY ?_)))));have j1:=dS (Ah e) j;refine uV (jQ (zA 1 rfl (jqN c (cI c oR.f0 λ_ X=>kI X λY=>zA 1 rfl (jqN c (cI c oR.f1 λ_ p=>kI p λZ=>zA 1 rfl ?_))))));refine jqN c (cI c oR.f2 λ_ t=>eZ t λ_ x=>zA 1 rfl (lM x Q λ_ y=>jB λz3 c3=>(jqk (λH=>xDw z3 c3 _ aA Y Z (H.a y)) (zA 1 rfl (nD (eD (xT ?_ ?_)))))))
  ·refine xI (oY 1 rfl (fZ (zR (fH (lD ?_)))));exact qT (rt rfl) lv
  refine qJ (jo rfl (xU (qG e j) (xC 1 rfl ?_)));exact jg ls
 refine oO (xS 1 rfl ?_);exact qT (rt rfl) lv
def cW (d:List A9) (c:Int):Option Int:= oZ (σ:=Unit) (qM (λe s=>match s with | _=>xG (ix d (c+(e:Int))) λf=>if (f.right != 0) then some (.ret ((c+(e:Int)))) else some (.go ())) ((d.length:Int) - c).toNat 0 ()) λ_=>some ((-1))
theorem sN {j c} (r) (x:cW j c=some r) {e} (f) (hN:HN B f) (h:Bo B f (Sl 3 qC) e j) (i:xL c):CG B f 120 #[e,xA c] (.fa (xL r) <| .st (xA r) λD=>D):=by
 unfold cW at x
 revert r
 refine vM Tryz.func120 [(0,e),(1,xA c)] hN λr=>?_;refine xI (xK 1 rfl (xC 2 rfl (qZ (λ_=>.st [] []) ?_ (λ_=>?_))))
 ·
  refine zK (jev 5 (show Value.int .i64 c=Value.int .i64 (c+((0:Nat):Int)) by rw[Int.ofNat_zero,Int.add_zero]) (jc (λp _=>.st [(5,xA (c+(p:Int))),(0,e)] []) ls (λ_ _ _ d=>?_) (λ_ p _ d=>?_)))
  ·have y:=yG d;refine xR (jA 2 rfl (jL h λ_=>xC 1 rfl (kJ y (xN ?_))));exact jf ls
  refine xR (jA 2 rfl (jL h λt=>xC 1 rfl (kO (tN d) (xY (qE (jA 2 rfl (jB λE z=>(jI h z (λ_ A=>?_)))))))));refine aF A qC.f1 λ_ C=>aP C λ_=>xC 1 rfl (xT ?_ ?_)
  ·refine xI (oY 2 rfl (fZ (zR (fH (lD ?_)))));exact qT (rt rfl) ⟨(xVp d i t),lv⟩
  refine qJ (jo rfl (xDk (xHc d i t) (xC 1 rfl ?_)));exact jg ls
 refine oO (xS 1 rfl ?_);exact qT (rt rfl) ⟨bC,lv⟩
end Go.Proofs.YtnjlbbfcngjhmaaGreat
