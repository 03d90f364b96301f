import Derived.Test.YtnjlbbfcngjhmaaGreatP11
namespace Go.Proofs.YtnjlbbfcngjhmaaGreat
set_option linter.unusedVariables false
set_option linter.unusedSimpArgs false
open Go.Proofs.Tryz
set_option maxHeartbeats 1000000
set_option maxRecDepth 100000
open Go.RowKit
variable {B:Nat->Prop}
def laws_szInt64S (d:List Int) (e:Int):Option Int:= xG (ck (e - (d.length:Int))) λc=>if (decide (c<0)) then some ((-1)) else some c
theorem laws_szInt64S_c {f c} (r) (i:laws_szInt64S f c=some r) {d} (e) (hN:HN B e) (j:Bo B e (Sl 1 xF) d f) (p:xL c):CG B e 98 #[d,xA c] (.fa (xL r) <| .st (xA r) λD=>D):=by
 unfold laws_szInt64S at i
 revert r
 refine vM func98 [(0,d),(1,xA c)] hN λr=>?_;refine xI (xM 1 rfl (jA 2 rfl (jL j λ_=>jB λt h=>(gM h (xK 1 rfl (xC 2 rfl ?_))))));refine xT ?_ ?_
 ·refine xI (oE 1 rfl ?_);exact qT (rt rfl) ⟨bC,lv⟩
 refine qR (xS 2 rfl ?_);exact qT (rt rfl) ⟨(kA h),lv⟩
def laws_szInt64SS (c:List (List Int)) (h:Int):Option Int:= xG (ck (h - (c.length:Int))) λd=>if (decide (d<0)) then some ((-1)) else oZ (σ:=Int) (oM (λp (i:(List Int)) f=>xG (laws_szInt64S i f) λe=>if (decide (e<0)) then some (.ret ((-1))) else some (.go e)) c 0 d) λj=>some j
theorem laws_szInt64SS_c {p c} (r) (C:laws_szInt64SS p c=some r) {d} (i) (hN:HN B i) (e:Bo B i (Sl 1 (kP 1 xF)) d p) (O:xL c):CG B i 50 #[d,xA c] (.fa (xL r) <| .st (xA r) λD=>D):=by
 unfold laws_szInt64SS at C
 revert r
 refine vM func50 [(0,d),(1,xA c)] hN λr=>?_;refine xI (xM 1 rfl (jA 2 rfl (jL e λ_=>jB λP t=>(gM t (xK 1 rfl (xC 2 rfl ?_))))));refine xT ?_ ?_
 ·refine xI (oE 1 rfl ?_);exact qT (rt rfl) ⟨bC,lv⟩
 refine vT (xC 1 rfl (qZ (λx=>.fa (xL x) <| .st [(1,xA x)] []) ?_ (λ_ E=>?_)))
 ·
  refine zK ?_;refine jl (λy f=>.fa (xL f) <| .st [(5,xA (y:Int)),(0,d),(1,xA f)] []) ⟨(kA t),ls⟩ (λ_ f _ F j=>?_) (λy _ _ h G j=>?_)
  ·have I:=oU F;refine xR (jA 2 rfl (jL e λ_=>xC 1 rfl (kJ I (xN ?_))));exact jf ⟨j,ls⟩
  refine xR (jA 2 rfl (jL e λz=>xC 1 rfl (kO (xX h) (xY ?_))));have j1:=dS (Ah h) z;refine qE (jA 2 rfl (jI e G λ_ K=>aR K λ_ L=>jo rfl (jB λM N=>(jk (λH=>laws_szInt64S_c M N _ aA (H.a L) j) λA=>xM 1 rfl (xC 2 rfl ?_)))));refine xT ?_ ?_
  ·refine xI (oY 1 rfl (fZ (zR (fH (lD ?_)))));exact qT (rt rfl) ⟨bC,lv⟩
  refine qJ (jo rfl (xU (qG h z) (xC 1 rfl ?_)));exact jg ⟨A,ls⟩
 refine oO (xS 2 rfl ?_);exact qT (rt rfl) ⟨E,lv⟩
def laws_szRel (d:Rel) (e:Int):Option Int:= xG (laws_szInt64SS d.tuples e) λc=>if (decide (c<0)) then some ((-1)) else some c
theorem laws_szRel_c {f c} (r) (p:laws_szRel f c=some r) {d} (e) (hN:HN B e) (t:Bo B e (qS 2 oQ) d f) (h:xL c):CG B e 29 #[d,xA c] (.fa (xL r) <| .st (xA r) λD=>D):=by
 unfold laws_szRel at p
 revert r
 refine vM func29 [(0,d),(1,xA c)] hN λr=>?_;refine xI ?_;obtain⟨z,rfl,A,x⟩:=oQ.o t;refine jX e2 λ_=>xM 1 rfl (xZ e2 (jb 0 e3 (jo rfl (jB λy i=>(jk (λH=>laws_szInt64SS_c y i _ aA (H.a x) h) λj=>xK 1 rfl (jA 2 rfl ?_))))));refine kD (xT ?_ ?_)
 ·refine xI (oE 1 rfl ?_);exact qT (rt rfl) ⟨bC,lv⟩
 refine qR (xS 2 rfl ?_);exact qT (rt rfl) ⟨j,lv⟩
def laws_szRelS (c:List Rel) (h:Int):Option Int:= xG (ck (h - (c.length:Int))) λd=>if (decide (d<0)) then some ((-1)) else oZ (σ:=Int) (oM (λp (i:Rel) f=>xG (laws_szRel i f) λe=>if (decide (e<0)) then some (.ret ((-1))) else some (.go e)) c 0 d) λj=>some j
theorem laws_szRelS_c {p c} (r) (C:laws_szRelS p c=some r) {d} (i) (hN:HN B i) (e:Bo B i (Sl 2 oQ) d p) (O:xL c):CG B i 17 #[d,xA c] (.fa (xL r) <| .st (xA r) λD=>D):=by
 unfold laws_szRelS at C
 revert r
 refine vM func17 [(0,d),(1,xA c)] hN λr=>?_;refine xI (xM 1 rfl (jA 2 rfl (jL e λ_=>jB λP t=>(gM t (xK 1 rfl (xC 2 rfl ?_))))));refine xT ?_ ?_
 ·refine xI (oE 1 rfl ?_);exact qT (rt rfl) ⟨bC,lv⟩
 refine vT (xC 1 rfl (qZ (λx=>.fa (xL x) <| .st [(1,xA x)] []) ?_ (λ_ E=>?_)))
 ·
  refine zK ?_;refine jl (λy f=>.fa (xL f) <| .st [(5,xA (y:Int)),(0,d),(1,xA f)] []) ⟨(kA t),ls⟩ (λ_ f _ F j=>?_) (λy _ _ h G j=>?_)
  ·have I:=oU F;refine xR (jA 2 rfl (jL e λ_=>xC 1 rfl (kJ I (xN ?_))));exact jf ⟨j,ls⟩
  refine xR (jA 2 rfl (jL e λz=>xC 1 rfl (kO (xX h) (xY ?_))));have j1:=dS (Ah h) z;refine qE (jA 2 rfl (jI e G λ_ K=>jlA K λ_ L=>jo rfl (jB λM N=>(jk (λH=>laws_szRel_c M N _ aA (H.a L) j) λA=>xM 1 rfl (xC 2 rfl ?_)))));refine xT ?_ ?_
  ·refine xI (oY 1 rfl (fZ (zR (fH (lD ?_)))));exact qT (rt rfl) ⟨bC,lv⟩
  refine qJ (jo rfl (xU (qG h z) (xC 1 rfl ?_)));exact jg ⟨A,ls⟩
 refine oO (xS 2 rfl ?_);exact qT (rt rfl) ⟨E,lv⟩
def laws_szTemplate (d:A6) (e:Int):Option Int:= xG (laws_szRelS d.rels e) λc=>if (decide (c<0)) then some ((-1)) else some c
theorem laws_szTemplate_c {f c} (r) (p:laws_szTemplate f c=some r) {d} (e) (hN:HN B e) (t:Bo B e (qS 2 xB) d f) (h:xL c):CG B e 9 #[d,xA c] (.fa (xL r) <| .st (xA r) λD=>D):=by
 unfold laws_szTemplate at p
 revert r
 refine vM func9 [(0,d),(1,xA c)] hN λr=>?_;refine xI ?_;obtain⟨z,rfl,A,x⟩:=xB.o t;refine jX e2 λ_=>xM 1 rfl (xZ e2 (jb 0 e3 (jo rfl (jB λy i=>(jk (λH=>laws_szRelS_c y i _ aA (H.a x) h) λj=>xK 1 rfl (jA 2 rfl ?_))))));refine kD (xT ?_ ?_)
 ·refine xI (oE 1 rfl ?_);exact qT (rt rfl) ⟨bC,lv⟩
 refine qR (xS 2 rfl ?_);exact qT (rt rfl) ⟨j,lv⟩
def laws_szCon (d:Con) (e:Int):Option Int:= xG (laws_szInt64S d.scope e) λc=>if (decide (c<0)) then some ((-1)) else some c
theorem laws_szCon_c {f c} (r) (p:laws_szCon f c=some r) {d} (e) (hN:HN B e) (t:Bo B e (qS 2 vS) d f) (h:xL c):CG B e 51 #[d,xA c] (.fa (xL r) <| .st (xA r) λD=>D):=by
 unfold laws_szCon at p
 revert r
 refine vM func51 [(0,d),(1,xA c)] hN λr=>?_;refine xI ?_;obtain⟨z,rfl,A,x⟩:=vS.o t;refine jX e2 λ_=>xM 1 rfl (xZ e2 (jb 0 e3 (jo rfl (jB λy i=>(jk (λH=>laws_szInt64S_c y i _ aA (H.a x) h) λj=>xK 1 rfl (jA 2 rfl ?_))))));refine kD (xT ?_ ?_)
 ·refine xI (oE 1 rfl ?_);exact qT (rt rfl) ⟨bC,lv⟩
 refine qR (xS 2 rfl ?_);exact qT (rt rfl) ⟨j,lv⟩
def laws_szConS (c:List Con) (h:Int):Option Int:= xG (ck (h - (c.length:Int))) λd=>if (decide (d<0)) then some ((-1)) else oZ (σ:=Int) (oM (λp (i:Con) f=>xG (laws_szCon i f) λe=>if (decide (e<0)) then some (.ret ((-1))) else some (.go e)) c 0 d) λj=>some j
theorem laws_szConS_c {p c} (r) (C:laws_szConS p c=some r) {d} (i) (hN:HN B i) (e:Bo B i (Sl 2 vS) d p) (O:xL c):CG B i 30 #[d,xA c] (.fa (xL r) <| .st (xA r) λD=>D):=by
 unfold laws_szConS at C
 revert r
 refine vM func30 [(0,d),(1,xA c)] hN λr=>?_;refine xI (xM 1 rfl (jA 2 rfl (jL e λ_=>jB λP t=>(gM t (xK 1 rfl (xC 2 rfl ?_))))));refine xT ?_ ?_
 ·refine xI (oE 1 rfl ?_);exact qT (rt rfl) ⟨bC,lv⟩
 refine vT (xC 1 rfl (qZ (λx=>.fa (xL x) <| .st [(1,xA x)] []) ?_ (λ_ E=>?_)))
 ·
  refine zK ?_;refine jl (λy f=>.fa (xL f) <| .st [(5,xA (y:Int)),(0,d),(1,xA f)] []) ⟨(kA t),ls⟩ (λ_ f _ F j=>?_) (λy _ _ h G j=>?_)
  ·have I:=oU F;refine xR (jA 2 rfl (jL e λ_=>xC 1 rfl (kJ I (xN ?_))));exact jf ⟨j,ls⟩
  refine xR (jA 2 rfl (jL e λz=>xC 1 rfl (kO (xX h) (xY ?_))));have j1:=dS (Ah h) z;refine qE (jA 2 rfl (jI e G λ_ K=>jlA K λ_ L=>jo rfl (jB λM N=>(jk (λH=>laws_szCon_c M N _ aA (H.a L) j) λA=>xM 1 rfl (xC 2 rfl ?_)))));refine xT ?_ ?_
  ·refine xI (oY 1 rfl (fZ (zR (fH (lD ?_)))));exact qT (rt rfl) ⟨bC,lv⟩
  refine qJ (jo rfl (xU (qG h z) (xC 1 rfl ?_)));exact jg ⟨A,ls⟩
 refine oO (xS 2 rfl ?_);exact qT (rt rfl) ⟨E,lv⟩
def laws_szInstance (d:A7) (e:Int):Option Int:= xG (laws_szConS d.cons e) λc=>if (decide (c<0)) then some ((-1)) else some c
theorem laws_szInstance_c {f c} (r) (p:laws_szInstance f c=some r) {d} (e) (hN:HN B e) (t:Bo B e (qS 2 xH) d f) (h:xL c):CG B e 18 #[d,xA c] (.fa (xL r) <| .st (xA r) λD=>D):=by
 unfold laws_szInstance at p
 revert r
 refine vM func18 [(0,d),(1,xA c)] hN λr=>?_;refine xI ?_;obtain⟨z,rfl,A,x⟩:=xH.o t;refine jX e2 λ_=>xM 1 rfl (xZ e2 (jb 0 e3 (jo rfl (jB λy i=>(jk (λH=>laws_szConS_c y i _ aA (H.a x) h) λj=>xK 1 rfl (jA 2 rfl ?_))))));refine kD (xT ?_ ?_)
 ·refine xI (oE 1 rfl ?_);exact qT (rt rfl) ⟨bC,lv⟩
 refine qR (xS 2 rfl ?_);exact qT (rt rfl) ⟨j,lv⟩
def laws_szInstanceS (c:List A7) (h:Int):Option Int:= xG (ck (h - (c.length:Int))) λd=>if (decide (d<0)) then some ((-1)) else oZ (σ:=Int) (oM (λp (i:A7) f=>xG (laws_szInstance i f) λe=>if (decide (e<0)) then some (.ret ((-1))) else some (.go e)) c 0 d) λj=>some j
theorem laws_szInstanceS_c {p c} (r) (C:laws_szInstanceS p c=some r) {d} (i) (hN:HN B i) (e:Bo B i (Sl 2 xH) d p) (O:xL c):CG B i 10 #[d,xA c] (.fa (xL r) <| .st (xA r) λD=>D):=by
 unfold laws_szInstanceS at C
 revert r
 refine vM func10 [(0,d),(1,xA c)] hN λr=>?_;refine xI (xM 1 rfl (jA 2 rfl (jL e λ_=>jB λP t=>(gM t (xK 1 rfl (xC 2 rfl ?_))))));refine xT ?_ ?_
 ·refine xI (oE 1 rfl ?_);exact qT (rt rfl) ⟨bC,lv⟩
 refine vT (xC 1 rfl (qZ (λx=>.fa (xL x) <| .st [(1,xA x)] []) ?_ (λ_ E=>?_)))
 ·
  refine zK ?_;refine jl (λy f=>.fa (xL f) <| .st [(5,xA (y:Int)),(0,d),(1,xA f)] []) ⟨(kA t),ls⟩ (λ_ f _ F j=>?_) (λy _ _ h G j=>?_)
  ·have I:=oU F;refine xR (jA 2 rfl (jL e λ_=>xC 1 rfl (kJ I (xN ?_))));exact jf ⟨j,ls⟩
  refine xR (jA 2 rfl (jL e λz=>xC 1 rfl (kO (xX h) (xY ?_))));have j1:=dS (Ah h) z;refine qE (jA 2 rfl (jI e G λ_ K=>jlA K λ_ L=>jo rfl (jB λM N=>(jk (λH=>laws_szInstance_c M N _ aA (H.a L) j) λA=>xM 1 rfl (xC 2 rfl ?_)))));refine xT ?_ ?_
  ·refine xI (oY 1 rfl (fZ (zR (fH (lD ?_)))));exact qT (rt rfl) ⟨bC,lv⟩
  refine qJ (jo rfl (xU (qG h z) (xC 1 rfl ?_)));exact jg ⟨A,ls⟩
 refine oO (xS 2 rfl ?_);exact qT (rt rfl) ⟨E,lv⟩
def laws_szHouse (c:B6) (f:Int):Option Int:= xG (laws_szTemplate (A6.mk c.template.size c.template.rels) f) λd=>if (decide (d<0)) then some ((-1)) else xG (laws_szInstanceS c.jobs d) λe=>if (decide (e<0)) then some ((-1)) else some e
theorem laws_szHouse_c {f c} (r) (p:laws_szHouse f c=some r) {d} (e) (hN:HN B e) (t:Bo B e (qS 4 vP) d f) (h:xL c):CG B e 4 #[d,xA c] (.fa (xL r) <| .st (xA r) λD=>D):=by
 unfold laws_szHouse at p
 revert r
 refine vM func4 [(0,d),(1,xA c)] hN λr=>?_;refine xI ?_;obtain⟨I,K,rfl,x,y,z,G⟩:=vP.o t;refine jX e2 λ_=>xM 1 rfl (xZ e2 (aG 0 e3 (jo rfl (jB λA C=>?_))));refine jk (λH=>laws_szTemplate_c A C _ aA (xB.m x (H.a y)) h) λi=>xK 1 rfl (xC 2 rfl (xT ?_ ?_))
 ·refine xI (oE 1 rfl ?_);exact qT (rt rfl) ⟨bC,lv⟩
 refine qR (xZ e2 (jb 0 e3 (jo rfl (jB λE F=>(jk (λH=>laws_szInstanceS_c E F _ aA (H.a z) i) λj=>xK 1 rfl (xC 2 rfl (xT ?_ ?_)))))))
 ·refine xI (oE 1 rfl ?_);exact qT (rt rfl) ⟨bC,lv⟩
 refine qR (xS 2 rfl ?_);exact qT (rt rfl) ⟨j,lv⟩
def laws_toInt64S (c:List Int):Option (List Int):= xG (pN (0:Int) (c.length:Int)) λf=>oZ (σ:=List Int) (oM (λd (h:Int) e=>xG (ix e (d:Int)) λj=>some (.go (e.set ((d:Int)).toNat h))) c 0 f) λi=>some i
theorem laws_toInt64S_c {t} (r) (C:laws_toInt64S t=some r) {c} (h) (hN:HN B h) (d:Bo B h (Sl 1 xF) c t):CG B h 123 #[c] (.v λp=>.st (p) λD=>rl 1 xF 2 p r::D):=by
 unfold laws_toInt64S at C
 revert r
 refine vM func123 [(0,c)] hN λr=>?_;refine xI (xM 1 rfl (jo rfl (jL d λ_=>jB λN E=>?_)));refine jRM (R:=xF) (λw=>⟨rfl,by decide,rfl⟩) E λO=>xK 1 rfl (xC 1 rfl (qZ (λF=>.v λi=>.st [(3,i)] [rl 1 xF 2 i F]) ?_ (λ_ i=>?_)))
 ·
  refine zK ?_;refine jl (λx j=>.v λe=>.st [(4,xA (x:Int)),(0,c),(3,e)] [rl 1 xF 2 e j]) ⟨_,ls⟩ (λ_ j _ G e=>?_) (λx P j f I e=>?_)
  ·have K:=oU G;refine xR (jA 2 rfl (jL d λ_=>xC 1 rfl (kJ K (xN ?_))));exact jf ⟨_,ls⟩
  refine xR (jA 2 rfl (jL d λy=>xC 1 rfl (kO (xX f) (xY ?_))));have j2:=dS (Ah f) y;refine xAp (jA 4 rfl (jI d I λ_ L=>aP L λM=>jB λQ z=>(jRl 0 z λ_ A=>jh (λH=>H.lw) (jS A (dL z) (λH=>Eo.int M) rfl (jh (λH=>H.tl) (dQ (jo rfl ?_)))))));refine xU (qG f y) (xC 1 rfl ?_);exact jg ⟨_,ls⟩
 refine oO (xS 2 rfl ?_);exact j1 (rt rfl) ⟨_,lv⟩
def laws_toInt64SS (c:List (List Int)):Option (List (List Int)):= xG (pN ([]:(List Int)) (c.length:Int)) λf=>oZ (σ:=List (List Int)) (oM (λd (h:(List Int)) e=>xG (laws_toInt64S h) λi=>xG (ix e (d:Int)) λp=>some (.go (e.set ((d:Int)).toNat i))) c 0 f) λj=>some j
theorem laws_toInt64SS_c {x} (r) (E:laws_toInt64SS x=some r) {c} (i) (hN:HN B i) (d:Bo B i (Sl 1 (kP 1 xF)) c x):CG B i 75 #[c] (.v λt=>.st (t) λD=>rw N0 1 (kP 1 xF) 58 t r::D):=by
 unfold laws_toInt64SS at E
 revert r
 refine vM func75 [(0,c)] hN λr=>?_;refine xI (xM 1 rfl (jo rfl (jL d λ_=>jB λQ F=>?_)));refine jRM (R:=(kP 1 xF)) (λw=>⟨_,rfl,Sl.nil _ _ _⟩) F λS=>xK 1 rfl (xC 1 rfl (qZ (λG=>.v λj=>.st [(3,j)] [rw N0 1 (kP 1 xF) 58 j G]) ?_ (λ_ j=>?_)))
 ·
  refine zK (jh (λH=>H.lw) ?_);refine jl (λy p=>.v λf=>.st [(4,xA (y:Int)),(0,c),(3,f)] [rw N0 1 (kP 1 xF) 58 f p]) ⟨_,ls⟩ (λ_ p _ I f=>?_) (λy _ p h K f=>?_)
  ·have L:=oU I;refine xR (jA 2 rfl (jL d λ_=>xC 1 rfl (kJ L (xN ?_))));exact jf ⟨_,ls⟩
  refine xR (jA 2 rfl (jL d λz=>xC 1 rfl (kO (xX h) (xY ?_))));have j2:=dS (Ah h) z;refine xAp (jA 4 rfl (jI d K λ_ M=>aR M λ_ N=>jB λO P=>(jk (λH=>laws_toInt64S_c O P _ aA (H.a N)) λ_=>jB λT A=>(jRi 1 A λ_ C=>js [1,0] rfl (jSc (hone:=(λH=>(H.l 1 rfl).one)) C (dL A) n0 (λH=>λe q=>(Eo.sl q.ld)) rfl (dQ ?_))))));refine jo rfl (xU (qG h z) (xC 1 rfl ?_));exact jg ⟨_,ls⟩
 refine oO (xS 2 rfl ?_);exact j1 (rt rfl) ⟨_,lv⟩
def laws_toRel (c:Rel):Option Rel:= xG (laws_toInt64SS c.tuples) λd=>some ((Rel.mk c.arity d))
theorem laws_toRel_c {f} (r) (h:laws_toRel f=some r) {c} (d) (hN:HN B d) (i:Bo B d (qS 2 oQ) c f):CG B d 39 #[c] (.v λe=>.fa (xL r.arity) <| .st (.agg #[xA r.arity,e]) λD=>rw N0 1 (kP 1 xF) 58 e r.tuples::D):=by
 unfold laws_toRel at h
 revert r
 refine vM func39 [(0,c)] hN λr=>?_;refine xI ?_;obtain⟨y,rfl,j,p⟩:=oQ.o i;refine jX e2 λ_=>aK rfl λ_=>qW (aK rfl λ_=>qW (xZ e2 (jb 2 e3 (xZ e2 (jW e3 (qW (xZ e2 ?_)))))));refine jb 2 e3 (jB λt x=>(jk (λH=>laws_toInt64SS_c t x _ aA (H.a p)) λz=>xZ e2 (js [1,0,2,3] rfl (jW (hv:=(λH=>(H.r 1 rfl).one)) e3 (qW (aG 0 e3 (js [2,0,1,3] rfl ?_)))))));refine zX (hv:=(λH=>oc rfl (oc (H.r 2 rfl).one on))) e3 (pM ?_);exact j1m (λH=>H.s [2] rfl rfl) (dA 0 e2) ⟨_,j,lv⟩
def laws_toRelS (c:List Rel):Option (List Rel):= xG (pN ((Rel.mk 0 []):Rel) (c.length:Int)) λh=>oZ (σ:=List Rel) (oM (λd (i:Rel) e=>xG (laws_toRel i) λf=>xG (ix e (d:Int)) λp=>some (.go (e.set ((d:Int)).toNat (Rel.mk f.arity f.tuples)))) c 0 h) λj=>some j
theorem laws_toRelS_c {x} (r) (F:laws_toRelS x=some r) {c} (i) (hN:HN B i) (d:Bo B i (Sl 2 oQ) c x):CG B i 22 #[c] (.v λt=>.st (t) λD=>rw N0 2 oQ 80 t r::D):=by
 unfold laws_toRelS at F
 revert r
 refine vM func22 [(0,c)] hN λr=>?_;refine xI (xM 1 rfl (jo rfl (jL d λ_=>jB λT G=>?_)));refine jRM (R:=oQ) (λw=>⟨_,[],rfl,(by decide),rfl,Sl.nil _ _ _,rfl⟩) G λU=>xK 1 rfl (xC 1 rfl (qZ (λI=>.v λj=>.st [(3,j)] [rw N0 2 oQ 80 j I]) ?_ (λ_ j=>?_)))
 ·
  refine zK (jh (λH=>H.lw) ?_);refine jl (λy p=>.v λf=>.st [(4,xA (y:Int)),(0,c),(3,f)] [rw N0 2 oQ 80 f p]) ⟨_,ls⟩ (λ_ p _ K f=>?_) (λy _ p h L f=>?_)
  ·have M:=oU K;refine xR (jA 2 rfl (jL d λ_=>xC 1 rfl (kJ M (xN ?_))));exact jf ⟨_,ls⟩
  refine xR (jA 2 rfl (jL d λz=>xC 1 rfl (kO (xX h) (xY ?_))));have j2:=dS (Ah h) z;refine xAp (jA 4 rfl (jI d L λ_ N=>jlA N λ_ O=>jB λA P=>(jk (λH=>laws_toRel_c A P _ aA (H.a O)) λQ S=>jB λW C=>(jRi 1 C λ_ E=>js [1,0] rfl ?_))));refine jSX (vs:=[xA A.arity,Q]) (λH=>.inl ⟨sizeOf80,rfl,(oc rfl (oc (H.r 1 rfl).one on))⟩) (RPt.o E) (rN C) n0 (λH=>λe q=>(Eo.agg (oQ.m S q.rd)).tn) rfl (dQ (jo rfl (xU (qG h z) (xC 1 rfl ?_))));exact jg ⟨_,ls⟩
 refine oO (xS 2 rfl ?_);exact j1 (rt rfl) ⟨_,lv⟩
def laws_toTemplate (c:A6):Option A6:= xG (laws_toRelS c.rels) λd=>some ((A6.mk c.size d))
theorem laws_toTemplate_c {f} (r) (h:laws_toTemplate f=some r) {c} (d) (hN:HN B d) (i:Bo B d (qS 2 xB) c f):CG B d 12 #[c] (.v λe=>.fa (xL r.size) <| .st (.agg #[xA r.size,e]) λD=>rw N0 2 oQ 80 e r.rels::D):=by
 unfold laws_toTemplate at h
 revert r
 refine vM func12 [(0,c)] hN λr=>?_;refine xI ?_;obtain⟨y,rfl,j,p⟩:=xB.o i;refine jX e2 λ_=>aK rfl λ_=>qW (aK rfl λ_=>qW (xZ e2 (jb 2 e3 (xZ e2 (jW e3 (qW (xZ e2 ?_)))))));refine jb 2 e3 (jB λt x=>(jk (λH=>laws_toRelS_c t x _ aA (H.a p)) λz=>xZ e2 (js [1,0,2,3] rfl (jW (hv:=(λH=>(H.r 1 rfl).one)) e3 (qW (aG 0 e3 (js [2,0,1,3] rfl ?_)))))));refine zX (hv:=(λH=>oc rfl (oc (H.r 2 rfl).one on))) e3 (pM ?_);exact j1m (λH=>H.s [2] rfl rfl) (dA 0 e2) ⟨_,j,lv⟩
def laws_toCon (c:Con):Option Con:= xG (laws_toInt64S c.scope) λd=>some ((Con.mk c.rel d))
theorem laws_toCon_c {f} (r) (h:laws_toCon f=some r) {c} (d) (hN:HN B d) (i:Bo B d (qS 2 vS) c f):CG B d 76 #[c] (.v λe=>.fa (xL r.rel) <| .st (.agg #[xA r.rel,e]) λD=>rl 1 xF 2 e r.scope::D):=by
 unfold laws_toCon at h
 revert r
 refine vM func76 [(0,c)] hN λr=>?_;refine xI ?_;obtain⟨y,rfl,j,p⟩:=vS.o i;refine jX e2 λ_=>aK rfl λ_=>qW (aK rfl λ_=>qW (xZ e2 (jb 2 e3 (xZ e2 (jW e3 (qW (xZ e2 ?_)))))));refine jb 2 e3 (jB λt x=>(jk (λH=>laws_toInt64S_c t x _ aA (H.a p)) λz=>xZ e2 (js [1,0,2,3] rfl (jW (hv:=(λH=>(H.l 1 rfl).one)) e3 (qW (aG 0 e3 (js [2,0,1,3] rfl ?_)))))));refine zX (hv:=(λH=>oc rfl (oc (H.l 2 rfl).one on))) e3 (pM ?_);exact j1m (λH=>H.s [2] rfl rfl) (dA 0 e2) ⟨_,j,lv⟩
def laws_toConS (c:List Con):Option (List Con):= xG (pN ((Con.mk 0 []):Con) (c.length:Int)) λh=>oZ (σ:=List Con) (oM (λd (i:Con) e=>xG (laws_toCon i) λf=>xG (ix e (d:Int)) λp=>some (.go (e.set ((d:Int)).toNat (Con.mk f.rel f.scope)))) c 0 h) λj=>some j
theorem laws_toConS_c {x} (r) (F:laws_toConS x=some r) {c} (i) (hN:HN B i) (d:Bo B i (Sl 2 vS) c x):CG B i 40 #[c] (.v λt=>.st (t) λD=>rw N0 2 vS 109 t r::D):=by
 unfold laws_toConS at F
 revert r
 refine vM func40 [(0,c)] hN λr=>?_;refine xI (xM 1 rfl (jo rfl (jL d λ_=>jB λT G=>?_)));refine jRM (R:=vS) (λw=>⟨_,[],rfl,(by decide),rfl,Sl.nil _ _ _,rfl⟩) G λU=>xK 1 rfl (xC 1 rfl (qZ (λI=>.v λj=>.st [(3,j)] [rw N0 2 vS 109 j I]) ?_ (λ_ j=>?_)))
 ·
  refine zK (jh (λH=>H.lw) ?_);refine jl (λy p=>.v λf=>.st [(4,xA (y:Int)),(0,c),(3,f)] [rw N0 2 vS 109 f p]) ⟨_,ls⟩ (λ_ p _ K f=>?_) (λy _ p h L f=>?_)
  ·have M:=oU K;refine xR (jA 2 rfl (jL d λ_=>xC 1 rfl (kJ M (xN ?_))));exact jf ⟨_,ls⟩
  refine xR (jA 2 rfl (jL d λz=>xC 1 rfl (kO (xX h) (xY ?_))));have j2:=dS (Ah h) z;refine xAp (jA 4 rfl (jI d L λ_ N=>jlA N λ_ O=>jB λA P=>(jk (λH=>laws_toCon_c A P _ aA (H.a O)) λQ S=>jB λW C=>(jRi 1 C λ_ E=>js [1,0] rfl ?_))));refine jSX (vs:=[xA A.rel,Q]) (λH=>.inl ⟨sizeOf109,rfl,(oc rfl (oc (H.l 1 rfl).one on))⟩) (RPt.o E) (rN C) n0 (λH=>λe q=>(Eo.agg (vS.m S q.ld)).tn) rfl (dQ (jo rfl (xU (qG h z) (xC 1 rfl ?_))));exact jg ⟨_,ls⟩
 refine oO (xS 2 rfl ?_);exact j1 (rt rfl) ⟨_,lv⟩
def laws_toInstance (c:A7):Option A7:= xG (laws_toConS c.cons) λd=>some ((A7.mk c.vars d))
theorem laws_toInstance_c {f} (r) (h:laws_toInstance f=some r) {c} (d) (hN:HN B d) (i:Bo B d (qS 2 xH) c f):CG B d 23 #[c] (.v λe=>.fa (xL r.vars) <| .st (.agg #[xA r.vars,e]) λD=>rw N0 2 vS 109 e r.cons::D):=by
 unfold laws_toInstance at h
 revert r
 refine vM func23 [(0,c)] hN λr=>?_;refine xI ?_;obtain⟨y,rfl,j,p⟩:=xH.o i;refine jX e2 λ_=>aK rfl λ_=>qW (aK rfl λ_=>qW (xZ e2 (jb 2 e3 (xZ e2 (jW e3 (qW (xZ e2 ?_)))))));refine jb 2 e3 (jB λt x=>(jk (λH=>laws_toConS_c t x _ aA (H.a p)) λz=>xZ e2 (js [1,0,2,3] rfl (jW (hv:=(λH=>(H.r 1 rfl).one)) e3 (qW (aG 0 e3 (js [2,0,1,3] rfl ?_)))))));refine zX (hv:=(λH=>oc rfl (oc (H.r 2 rfl).one on))) e3 (pM ?_);exact j1m (λH=>H.s [2] rfl rfl) (dA 0 e2) ⟨_,j,lv⟩
def laws_toInstanceS (c:List A7):Option (List A7):= xG (pN ((A7.mk 0 []):A7) (c.length:Int)) λh=>oZ (σ:=List A7) (oM (λd (i:A7) e=>xG (laws_toInstance i) λf=>xG (ix e (d:Int)) λp=>some (.go (e.set ((d:Int)).toNat (A7.mk f.vars f.cons)))) c 0 h) λj=>some j
theorem laws_toInstanceS_c {x} (r) (F:laws_toInstanceS x=some r) {c} (i) (hN:HN B i) (d:Bo B i (Sl 2 xH) c x):CG B i 13 #[c] (.v λt=>.st (t) λD=>rw N0 2 xH 67 t r::D):=by
 unfold laws_toInstanceS at F
 revert r
 refine vM func13 [(0,c)] hN λr=>?_;refine xI (xM 1 rfl (jo rfl (jL d λ_=>jB λT G=>?_)));refine jRM (R:=xH) (λw=>⟨_,[],rfl,(by decide),rfl,Sl.nil _ _ _,rfl⟩) G λU=>xK 1 rfl (xC 1 rfl (qZ (λI=>.v λj=>.st [(3,j)] [rw N0 2 xH 67 j I]) ?_ (λ_ j=>?_)))
 ·
  refine zK (jh (λH=>H.lw) ?_);refine jl (λy p=>.v λf=>.st [(4,xA (y:Int)),(0,c),(3,f)] [rw N0 2 xH 67 f p]) ⟨_,ls⟩ (λ_ p _ K f=>?_) (λy _ p h L f=>?_)
  ·have M:=oU K;refine xR (jA 2 rfl (jL d λ_=>xC 1 rfl (kJ M (xN ?_))));exact jf ⟨_,ls⟩
  refine xR (jA 2 rfl (jL d λz=>xC 1 rfl (kO (xX h) (xY ?_))));have j2:=dS (Ah h) z;refine xAp (jA 4 rfl (jI d L λ_ N=>jlA N λ_ O=>jB λA P=>(jk (λH=>laws_toInstance_c A P _ aA (H.a O)) λQ S=>jB λW C=>(jRi 1 C λ_ E=>js [1,0] rfl ?_))));refine jSX (vs:=[xA A.vars,Q]) (λH=>.inl ⟨sizeOf67,rfl,(oc rfl (oc (H.r 1 rfl).one on))⟩) (RPt.o E) (rN C) n0 (λH=>λe q=>(Eo.agg (xH.m S q.rd)).tn) rfl (dQ (jo rfl (xU (qG h z) (xC 1 rfl ?_))));exact jg ⟨_,ls⟩
 refine oO (xS 2 rfl ?_);exact j1 (rt rfl) ⟨_,lv⟩
def laws_toHouse (c:B6):Option B6:= xG (laws_toTemplate (A6.mk c.template.size c.template.rels)) λd=>xG (laws_toInstanceS c.jobs) λe=>some ((B6.mk (A6.mk d.size d.rels) e c.clerks))
theorem laws_toHouse_c {h} (r) (j:laws_toHouse h=some r) {c} (d) (hN:HN B d) (p:Bo B d (qS 4 vP) c h):CG B d 6 #[c] (.v λe=>.v λf=>.fa (xL r.template.size) <| .fa (xL r.clerks) <| .st (.agg #[xA r.template.size,e,f,xA r.clerks]) λD=>rw N0 2 oQ 80 e r.template.rels::rw N0 2 xH 67 f r.jobs::D):=by
 unfold laws_toHouse at j
 revert r
 refine vM func6 [(0,c)] hN λr=>?_;refine xI ?_;obtain⟨G,I,rfl,t,x,y,i⟩:=vP.o p;refine jX e2 λ_=>aK rfl λ_=>qW (aK rfl λ_=>qW (xZ e2 (aG 2 e3 (jB λz A=>?_))));refine jk (λH=>laws_toTemplate_c z A _ aA (xB.m t (H.a x))) λK C=>xZ e2 (js [1,0,2,3] rfl ?_);refine zX (hv:=(λH=>oc rfl (oc (H.r 1 rfl).one on))) e3 (qW (xZ e2 (jb 3 e3 (jB λE F=>(jk (λH=>laws_toInstanceS_c E F _ aA (H.a y)) λL=>xZ e2 (js [1,0,2,3,4] rfl (jW (hv:=(λH=>(H.r 1 rfl).one)) e3 (qW (xZ e2 ?_)))))))));refine jb 4 e3 (xZ e2 (jW e3 (qW (aG 0 e3 (js [3,0,1,2,4] rfl ?_)))));refine zX (hv:=(λH=>oc rfl (oc (H.r 3 rfl).one (oc (H.r 2 rfl).one (oc rfl on))))) e3 (pM ?_);exact j1m (λH=>H.s [3,2] rfl rfl) (dA 0 e2) ⟨_,_,C,i,lv⟩
def laws_eqInt64S (c d:List Int):Option Bool:= if ((c.length:Int) != (d.length:Int)) then some false else oZ (σ:=Unit) (oM (λe (f:Int) s=>match s with | _=>xG (ix d (e:Int)) λh=>if (f != h) then some (.ret false) else some (.go ())) c 0 ()) λ_=>some true
theorem laws_eqInt64S_c {i j} (r) (y:laws_eqInt64S i j=some r) {c d} (e) (hN:HN B e) (f:Bo B e (Sl 1 xF) c i) (p:Bo B e (Sl 1 xF) d j):CG B e 156 #[c,d] (.st (.bool r) λD=>D):=by
 unfold laws_eqInt64S at y
 revert r
 refine vM func156 [(0,c),(1,d)] hN λr=>?_;refine xI (xK 1 rfl (jo rfl (jL f λ_=>jo rfl (jL p λ_=>xC 1 rfl (xT ?_ ?_)))))
 ·refine xI (oE 1 rfl ?_);exact qT (rt rfl) lv
 refine vT (xC 1 rfl (qZ (λ_=>.st [] []) ?_ (λ_=>?_)))
 ·
  refine zK (jl (λt _=>.st [(5,xA (t:Int)),(0,c),(1,d)] []) ls (λ_ _ _ z=>?_) (λt _ _ h A=>?_))
  ·have C:=oU z;refine xR (jA 2 rfl (jL f λ_=>xC 1 rfl (kJ C (xN ?_))));exact jf ls
  refine xR (jA 2 rfl (jL f λx=>xC 1 rfl (kO (xX h) (xY ?_))));have j1:=dS (Ah h) x;refine uV (jQ (zA 2 rfl (lM f A λ_ E=>kI E λ_=>zA 2 rfl (jB λH F=>(lM p F λ_ G=>kI G λ_=>zA 1 rfl (nD ?_))))));refine eD (xT ?_ ?_)
  ·refine xI (oY 1 rfl (fZ (zR (fH (lD ?_)))));exact qT (rt rfl) lv
  refine qJ (jo rfl (xU (qG h x) (xC 1 rfl ?_)));exact jg ls
 refine oO (xS 1 rfl ?_);exact qT (rt rfl) lv
def laws_eqInt64SS (c d:List (List Int)):Option Bool:= if ((c.length:Int) != (d.length:Int)) then some false else oZ (σ:=Unit) (oM (λe (f:(List Int)) s=>match s with | _=>xG (ix d (e:Int)) λh=>xG (laws_eqInt64S f h) λi=>if (!i) then some (.ret false) else some (.go ())) c 0 ()) λ_=>some true
theorem laws_eqInt64SS_c {i j} (r) (y:laws_eqInt64SS i j=some r) {c d} (e) (hN:HN B e) (f:Bo B e (Sl 1 (kP 1 xF)) c i) (p:Bo B e (Sl 1 (kP 1 xF)) d j):CG B e 96 #[c,d] (.st (.bool r) λD=>D):=by
 unfold laws_eqInt64SS at y
 revert r
 refine vM func96 [(0,c),(1,d)] hN λr=>?_;refine xI (xK 1 rfl (jo rfl (jL f λ_=>jo rfl (jL p λ_=>xC 1 rfl (xT ?_ ?_)))))
 ·refine xI (oE 1 rfl ?_);exact qT (rt rfl) lv
 refine vT (xC 1 rfl (qZ (λ_=>.st [] []) ?_ (λ_=>?_)))
 ·
  refine zK (jl (λt _=>.st [(5,xA (t:Int)),(0,c),(1,d)] []) ls (λ_ _ _ z=>?_) (λt _ _ h A=>?_))
  ·have C:=oU z;refine xR (jA 2 rfl (jL f λ_=>xC 1 rfl (kJ C (xN ?_))));exact jf ls
  refine xR (jA 2 rfl (jL f λx=>xC 1 rfl (kO (xX h) (xY ?_))));have j1:=dS (Ah h) x;refine uV (jQ (zA 2 rfl (lM f A λ_ E=>eZ E λ_ F=>zA 2 rfl (jB λN G=>(lM p G λ_ I=>eZ I λ_ K=>jB λL M=>(jqk (λH=>laws_eqInt64S_c L M _ aA (H.a F) (H.a K)) ?_))))));refine zA 1 rfl (nD (eD (xT ?_ ?_)))
  ·refine xI (oY 1 rfl (fZ (zR (fH (lD ?_)))));exact qT (rt rfl) lv
  refine qJ (jo rfl (xU (qG h x) (xC 1 rfl ?_)));exact jg ls
 refine oO (xS 1 rfl ?_);exact qT (rt rfl) lv
def laws_eqRel (c d:Rel):Option Bool:= if (c.arity != d.arity) then some false else xG (laws_eqInt64SS c.tuples d.tuples) λe=>if (!e) then some false else some true
theorem laws_eqRel_c {f h} (r) (i:laws_eqRel f h=some r) {d e} (c) (hN:HN B c) (j:Bo B c (qS 2 oQ) d f) (p:Bo B c (qS 2 oQ) e h):CG B c 48 #[d,e] (.st (.bool r) λD=>D):=by
 unfold laws_eqRel at i
 revert r
 refine vM func48 [(0,d),(1,e)] hN λr=>?_;refine xI ?_;obtain⟨C,rfl,E,t⟩:=oQ.o j;refine jX e2 (λ_=>?_);obtain⟨A,rfl,F,x⟩:=oQ.o p;refine jX e2 λ_=>xK 1 rfl (xZ e2 (jb 1 e3 (xZ e2 (jb 0 e3 (xC 1 rfl (xT ?_ ?_))))))
 ·refine xI (oE 1 rfl ?_);exact qT (rt rfl) lv
 refine vT (xZ e2 (jb 1 e3 (xZ e2 (jb 0 e3 (jB λy z=>(jk (λH=>laws_eqInt64SS_c y z _ aA (H.a t) (H.a x)) (xC 1 rfl (xT ?_ ?_))))))))
 ·refine xI (oE 1 rfl ?_);exact qT (rt rfl) lv
 refine qR (xS 1 rfl ?_);exact qT (rt rfl) lv
def laws_eqRelS (c d:List Rel):Option Bool:= if ((c.length:Int) != (d.length:Int)) then some false else oZ (σ:=Unit) (oM (λe (f:Rel) s=>match s with | _=>xG (ix d (e:Int)) λh=>xG (laws_eqRel f h) λi=>if (!i) then some (.ret false) else some (.go ())) c 0 ()) λ_=>some true
theorem laws_eqRelS_c {i j} (r) (y:laws_eqRelS i j=some r) {c d} (e) (hN:HN B e) (f:Bo B e (Sl 2 oQ) c i) (p:Bo B e (Sl 2 oQ) d j):CG B e 27 #[c,d] (.st (.bool r) λD=>D):=by
 unfold laws_eqRelS at y
 revert r
 refine vM func27 [(0,c),(1,d)] hN λr=>?_;refine xI (xK 1 rfl (jo rfl (jL f λ_=>jo rfl (jL p λ_=>xC 1 rfl (xT ?_ ?_)))))
 ·refine xI (oE 1 rfl ?_);exact qT (rt rfl) lv
 refine vT (xC 1 rfl (qZ (λ_=>.st [] []) ?_ (λ_=>?_)))
 ·
  refine zK (jl (λt _=>.st [(5,xA (t:Int)),(0,c),(1,d)] []) ls (λ_ _ _ z=>?_) (λt _ _ h A=>?_))
  ·have C:=oU z;refine xR (jA 2 rfl (jL f λ_=>xC 1 rfl (kJ C (xN ?_))));exact jf ls
  refine xR (jA 2 rfl (jL f λx=>xC 1 rfl (kO (xX h) (xY ?_))));have j1:=dS (Ah h) x;refine uV (jQ (zA 2 rfl (lM f A λ_ E=>xJu E λ_ F=>zA 2 rfl (jB λN G=>(lM p G λ_ I=>xJu I λ_ K=>jB λL M=>(jqk (λH=>laws_eqRel_c L M _ aA (H.a F) (H.a K)) ?_))))));refine zA 1 rfl (nD (eD (xT ?_ ?_)))
  ·refine xI (oY 1 rfl (fZ (zR (fH (lD ?_)))));exact qT (rt rfl) lv
  refine qJ (jo rfl (xU (qG h x) (xC 1 rfl ?_)));exact jg ls
 refine oO (xS 1 rfl ?_);exact qT (rt rfl) lv
def laws_eqTemplate (c d:A6):Option Bool:= if (c.size != d.size) then some false else xG (laws_eqRelS c.rels d.rels) λe=>if (!e) then some false else some true
theorem laws_eqTemplate_c {f h} (r) (i:laws_eqTemplate f h=some r) {d e} (c) (hN:HN B c) (j:Bo B c (qS 2 xB) d f) (p:Bo B c (qS 2 xB) e h):CG B c 15 #[d,e] (.st (.bool r) λD=>D):=by
 unfold laws_eqTemplate at i
 revert r
 refine vM func15 [(0,d),(1,e)] hN λr=>?_;refine xI ?_;obtain⟨C,rfl,E,t⟩:=xB.o j;refine jX e2 (λ_=>?_);obtain⟨A,rfl,F,x⟩:=xB.o p;refine jX e2 λ_=>xK 1 rfl (xZ e2 (jb 1 e3 (xZ e2 (jb 0 e3 (xC 1 rfl (xT ?_ ?_))))))
 ·refine xI (oE 1 rfl ?_);exact qT (rt rfl) lv
 refine vT (xZ e2 (jb 1 e3 (xZ e2 (jb 0 e3 (jB λy z=>(jk (λH=>laws_eqRelS_c y z _ aA (H.a t) (H.a x)) (xC 1 rfl (xT ?_ ?_))))))))
 ·refine xI (oE 1 rfl ?_);exact qT (rt rfl) lv
 refine qR (xS 1 rfl ?_);exact qT (rt rfl) lv
def laws_eqCon (c d:Con):Option Bool:= if (c.rel != d.rel) then some false else xG (laws_eqInt64S c.scope d.scope) λe=>if (!e) then some false else some true
theorem laws_eqCon_c {f h} (r) (i:laws_eqCon f h=some r) {d e} (c) (hN:HN B c) (j:Bo B c (qS 2 vS) d f) (p:Bo B c (qS 2 vS) e h):CG B c 97 #[d,e] (.st (.bool r) λD=>D):=by
 unfold laws_eqCon at i
 revert r
 refine vM func97 [(0,d),(1,e)] hN λr=>?_;refine xI ?_;obtain⟨C,rfl,E,t⟩:=vS.o j;refine jX e2 (λ_=>?_);obtain⟨A,rfl,F,x⟩:=vS.o p;refine jX e2 λ_=>xK 1 rfl (xZ e2 (jb 1 e3 (xZ e2 (jb 0 e3 (xC 1 rfl (xT ?_ ?_))))))
 ·refine xI (oE 1 rfl ?_);exact qT (rt rfl) lv
 refine vT (xZ e2 (jb 1 e3 (xZ e2 (jb 0 e3 (jB λy z=>(jk (λH=>laws_eqInt64S_c y z _ aA (H.a t) (H.a x)) (xC 1 rfl (xT ?_ ?_))))))))
 ·refine xI (oE 1 rfl ?_);exact qT (rt rfl) lv
 refine qR (xS 1 rfl ?_);exact qT (rt rfl) lv
def laws_eqConS (c d:List Con):Option Bool:= if ((c.length:Int) != (d.length:Int)) then some false else oZ (σ:=Unit) (oM (λe (f:Con) s=>match s with | _=>xG (ix d (e:Int)) λh=>xG (laws_eqCon f h) λi=>if (!i) then some (.ret false) else some (.go ())) c 0 ()) λ_=>some true
theorem laws_eqConS_c {i j} (r) (y:laws_eqConS i j=some r) {c d} (e) (hN:HN B e) (f:Bo B e (Sl 2 vS) c i) (p:Bo B e (Sl 2 vS) d j):CG B e 49 #[c,d] (.st (.bool r) λD=>D):=by
 unfold laws_eqConS at y
 revert r
 refine vM func49 [(0,c),(1,d)] hN λr=>?_;refine xI (xK 1 rfl (jo rfl (jL f λ_=>jo rfl (jL p λ_=>xC 1 rfl (xT ?_ ?_)))))
 ·refine xI (oE 1 rfl ?_);exact qT (rt rfl) lv
 refine vT (xC 1 rfl (qZ (λ_=>.st [] []) ?_ (λ_=>?_)))
 ·
  refine zK (jl (λt _=>.st [(5,xA (t:Int)),(0,c),(1,d)] []) ls (λ_ _ _ z=>?_) (λt _ _ h A=>?_))
  ·have C:=oU z;refine xR (jA 2 rfl (jL f λ_=>xC 1 rfl (kJ C (xN ?_))));exact jf ls
  refine xR (jA 2 rfl (jL f λx=>xC 1 rfl (kO (xX h) (xY ?_))));have j1:=dS (Ah h) x;refine uV (jQ (zA 2 rfl (lM f A λ_ E=>xJu E λ_ F=>zA 2 rfl (jB λN G=>(lM p G λ_ I=>xJu I λ_ K=>jB λL M=>(jqk (λH=>laws_eqCon_c L M _ aA (H.a F) (H.a K)) ?_))))));refine zA 1 rfl (nD (eD (xT ?_ ?_)))
  ·refine xI (oY 1 rfl (fZ (zR (fH (lD ?_)))));exact qT (rt rfl) lv
  refine qJ (jo rfl (xU (qG h x) (xC 1 rfl ?_)));exact jg ls
 refine oO (xS 1 rfl ?_);exact qT (rt rfl) lv
def laws_eqInstance (c d:A7):Option Bool:= if (c.vars != d.vars) then some false else xG (laws_eqConS c.cons d.cons) λe=>if (!e) then some false else some true
theorem laws_eqInstance_c {f h} (r) (i:laws_eqInstance f h=some r) {d e} (c) (hN:HN B c) (j:Bo B c (qS 2 xH) d f) (p:Bo B c (qS 2 xH) e h):CG B c 28 #[d,e] (.st (.bool r) λD=>D):=by
 unfold laws_eqInstance at i
 revert r
 refine vM func28 [(0,d),(1,e)] hN λr=>?_;refine xI ?_;obtain⟨C,rfl,E,t⟩:=xH.o j;refine jX e2 (λ_=>?_);obtain⟨A,rfl,F,x⟩:=xH.o p;refine jX e2 λ_=>xK 1 rfl (xZ e2 (jb 1 e3 (xZ e2 (jb 0 e3 (xC 1 rfl (xT ?_ ?_))))))
 ·refine xI (oE 1 rfl ?_);exact qT (rt rfl) lv
 refine vT (xZ e2 (jb 1 e3 (xZ e2 (jb 0 e3 (jB λy z=>(jk (λH=>laws_eqConS_c y z _ aA (H.a t) (H.a x)) (xC 1 rfl (xT ?_ ?_))))))))
 ·refine xI (oE 1 rfl ?_);exact qT (rt rfl) lv
 refine qR (xS 1 rfl ?_);exact qT (rt rfl) lv
def laws_eqInstanceS (c d:List A7):Option Bool:= if ((c.length:Int) != (d.length:Int)) then some false else oZ (σ:=Unit) (oM (λe (f:A7) s=>match s with | _=>xG (ix d (e:Int)) λh=>xG (laws_eqInstance f h) λi=>if (!i) then some (.ret false) else some (.go ())) c 0 ()) λ_=>some true
theorem laws_eqInstanceS_c {i j} (r) (y:laws_eqInstanceS i j=some r) {c d} (e) (hN:HN B e) (f:Bo B e (Sl 2 xH) c i) (p:Bo B e (Sl 2 xH) d j):CG B e 16 #[c,d] (.st (.bool r) λD=>D):=by
 unfold laws_eqInstanceS at y
 revert r
 refine vM func16 [(0,c),(1,d)] hN λr=>?_;refine xI (xK 1 rfl (jo rfl (jL f λ_=>jo rfl (jL p λ_=>xC 1 rfl (xT ?_ ?_)))))
 ·refine xI (oE 1 rfl ?_);exact qT (rt rfl) lv
 refine vT (xC 1 rfl (qZ (λ_=>.st [] []) ?_ (λ_=>?_)))
 ·
  refine zK (jl (λt _=>.st [(5,xA (t:Int)),(0,c),(1,d)] []) ls (λ_ _ _ z=>?_) (λt _ _ h A=>?_))
  ·have C:=oU z;refine xR (jA 2 rfl (jL f λ_=>xC 1 rfl (kJ C (xN ?_))));exact jf ls
  refine xR (jA 2 rfl (jL f λx=>xC 1 rfl (kO (xX h) (xY ?_))));have j1:=dS (Ah h) x;refine uV (jQ (zA 2 rfl (lM f A λ_ E=>xJu E λ_ F=>zA 2 rfl (jB λN G=>(lM p G λ_ I=>xJu I λ_ K=>jB λL M=>(jqk (λH=>laws_eqInstance_c L M _ aA (H.a F) (H.a K)) ?_))))));refine zA 1 rfl (nD (eD (xT ?_ ?_)))
  ·refine xI (oY 1 rfl (fZ (zR (fH (lD ?_)))));exact qT (rt rfl) lv
  refine qJ (jo rfl (xU (qG h x) (xC 1 rfl ?_)));exact jg ls
 refine oO (xS 1 rfl ?_);exact qT (rt rfl) lv
def laws_eqHouse (c d:B6):Option Bool:= xG (laws_eqTemplate (A6.mk c.template.size c.template.rels) (A6.mk d.template.size d.template.rels)) λe=>if (!e) then some false else xG (laws_eqInstanceS c.jobs d.jobs) λf=>if (!f) then some false else if (c.clerks != d.clerks) then some false else some true
theorem laws_eqHouse_c {f h} (r) (i:laws_eqHouse f h=some r) {d e} (c) (hN:HN B c) (j:Bo B c (qS 4 vP) d f) (p:Bo B c (qS 4 vP) e h):CG B c 8 #[d,e] (.st (.bool r) λD=>D):=by
 unfold laws_eqHouse at i
 revert r
 refine vM func8 [(0,d),(1,e)] hN λr=>?_;refine xI ?_;obtain⟨L,M,rfl,t,x,y,K⟩:=vP.o j;refine jX e2 (λ_=>?_);obtain⟨N,O,rfl,z,A,C,P⟩:=vP.o p;refine jX e2 λ_=>xK 1 rfl (xZ e2 (aG 1 e3 (xZ e2 (aG 0 e3 (jB λE F=>?_)))));refine jk (λH=>laws_eqTemplate_c E F _ aA (xB.m t (H.a x)) (xB.m z (H.a A))) (xC 1 rfl (xT ?_ ?_))
 ·refine xI (oE 1 rfl ?_);exact qT (rt rfl) lv
 refine vT (xZ e2 (jb 1 e3 (xZ e2 (jb 0 e3 (jB λG I=>(jk (λH=>laws_eqInstanceS_c G I _ aA (H.a y) (H.a C)) (xC 1 rfl (xT ?_ ?_))))))))
 ·refine xI (oE 1 rfl ?_);exact qT (rt rfl) lv
 refine vT (xZ e2 (jb 1 e3 (xZ e2 (jb 0 e3 (xC 1 rfl (xT ?_ ?_))))))
 ·refine xI (oE 1 rfl ?_);exact qT (rt rfl) lv
 refine qR (xS 1 rfl ?_);exact qT (rt rfl) lv
def laws_FnExactValidHouse (N:Nat) (d:B6):Option Bool:= xG (laws_szHouse (B6.mk (A6.mk d.template.size d.template.rels) d.jobs d.clerks) 1048576) λe=>if (decide (e<0)) then some true else xG (laws_toHouse (B6.mk (A6.mk d.template.size d.template.rels) d.jobs d.clerks)) λc=>xG (jH N (B6.mk (A6.mk c.template.size c.template.rels) c.jobs c.clerks)) λf=>xG (iW N (B6.mk (A6.mk c.template.size c.template.rels) c.jobs c.clerks)) λh=>if (h != f) then some false else xG (laws_eqHouse (B6.mk (A6.mk c.template.size c.template.rels) c.jobs c.clerks) (B6.mk (A6.mk c.template.size c.template.rels) c.jobs c.clerks)) λi=>if (!i) then some false else some true
theorem laws_FnExactValidHouse_c {N y} (r) (E:laws_FnExactValidHouse N y=some r) {h} (i) (hN:HN B i) (F:Bo B i (qS 4 vP) h y):CG B i 3 #[h] (.st (.bool r) λD=>D):=by
 unfold laws_FnExactValidHouse at E
 revert r
 refine vM func3 [(0,h)] hN λr=>?_;refine xI ?_;obtain⟨X,Y,rfl,d,e,f,c⟩:=vP.o F;refine jX e2 λ_=>xM 1 rfl (xM 1 rfl (aG 0 e3 (jo rfl (jB λG I=>?_))));refine jk (λH=>laws_szHouse_c G I _ aA (vP.m d (H.a e) (H.a f) c) xQj) λW=>xK 1 rfl (xC 2 rfl (xT ?_ ?_))
 ·refine xI (oE 1 rfl ?_);exact qT (rt rfl) lv
 refine qR (aG 0 e3 (jB λj p=>?_));refine jk (λH=>laws_toHouse_c j p _ aA (vP.m d (H.a e) (H.a f) c)) λ_ _ K L=>jB λM O=>?_;refine jk (λH=>xFb M O _ aA (vP.m K (H.r 0 rfl) (H.r 1 rfl) L)) (xM 1 rfl (aG 2 e3 ?_));refine jk (λH=>laws_toHouse_c j p _ aA (vP.m d (H.a e) (H.a f) c)) λZ v4 t z=>aK rfl (λ_=>?_);refine zX (hv:=(λH=>oc rfl (oc (H.r 1 rfl).one (oc (H.r 2 rfl).one (oc rfl on))))) e3 (qW (aG 0 e3 (jB λP Q=>?_)));refine jk (λH=>xFo P Q _ aA (vP.m t (H.r 1 rfl) (H.r 2 rfl) z)) (xK 1 rfl (jA 2 rfl (oIn e2 (kD (xT ?_ ?_)))))
 ·refine xI (oE 1 rfl ?_);exact qT (rt rfl) lv
 refine xLb (jB λR S=>(js [0,5,1,2,3,4] rfl (jh (λH=>H.mg) (cZ λ_ _ _ _ A C x _=>(jD (rY 0 rfl A.l.bk e2 (rY 1 rfl A.r.bk e2 (jE 2 rfl ?_))))))));refine jk (λH=>laws_toHouse_c j p _ aA (vP.m d (H.a (C e)) (H.a (C f)) c)) λ_ _ T U=>qK (jE 3 rfl ?_);refine jk (λH=>laws_eqHouse_c R S _ aA (vP.m t (H.r 2 rfl) (H.r 3 rfl) z) (vP.m T (H.r 0 rfl) (H.r 1 rfl) U)) (qK (zF [4] rfl (iT (eD (xT ?_ ?_)))))
 ·refine xI (oE 1 rfl (aI x (jh (λH=>H.um) ?_)));exact qT (rt rfl) lv
 refine qR (xS 1 rfl (aI x (jh (λH=>H.um) ?_)));exact qT (rt rfl) lv
end Go.Proofs.YtnjlbbfcngjhmaaGreat
