import Derived.Test.YtomlfdagbmgmgaaGreatMH
namespace Go.Proofs.YtomlfdagbmgmgaaGreat
set_option linter.unusedVariables false
set_option linter.unusedSimpArgs false
section
open Go.Proofs.Tryz
set_option maxHeartbeats 1000000
set_option maxRecDepth 100000
open Go.RowKit
variable {B:Nat->Prop}
def laws_szInt64S (d:List Int) (e:Int):Option Int:= xH (ck (e - (d.length:Int))) λc=>if (decide (c<0)) then some ((-1)) else some c
theorem laws_szInt64S_c {f c} {d} {e} (hN:HN B e) (i:Bo B e (Sl 1 xF) d f) (j:xM c):∀ r,laws_szInt64S f c=some r->CG B e 119 #[d,xB c] (sI r):=by
 refine vW func119 [(0,d),(1,xB c)] hN λr=>?_;refine xK rfl (jA 2 rfl (jL i λ_=>jB λp h=>(fR h (xI rfl (oD 2 rfl (xW ?_ ?_))))))
 ·refine xN (xT rfl ?_);exact qJ ⟨kV,lv⟩
 refine qG (qZ 2 rfl ?_);exact qJ ⟨(zI h),lv⟩
def laws_szInt64SS (c:List (List Int)) (h:Int):Option Int:= xH (ck (h - (c.length:Int))) λd=>if (decide (d<0)) then some ((-1)) else qD (σ:=Int) (oM (λp (i:(List Int)) f=>xH (laws_szInt64S i f) λe=>if (decide (e<0)) then some (.ret ((-1))) else some (.go e)) c 0 d) λj=>some j
theorem laws_szInt64SS_c {p c} {d} {i} (hN:HN B i) (e:Bo B i (Sl 1 (zV 1 xF)) d p) (M:xM c):∀ r,laws_szInt64SS p c=some r->CG B i 71 #[d,xB c] (sI r):=by
 refine vW func71 [(0,d),(1,xB c)] hN λr=>?_;refine xK rfl (jA 2 rfl (jL e λ_=>jB λN t=>(fR t (xI rfl (oD 2 rfl (xW ?_ ?_))))))
 ·refine xN (xT rfl ?_);exact qJ ⟨kV,lv⟩
 refine qY (xA rfl (vA (λx=>.fa (xM x) <| .st [(1,xB x)] []) ?_ (λ_ C=>?_)))
 ·
  refine zH ?_;refine jl (λy f=>.fa (xM f) <| .st [(5,xB (y:Int)),(0,d),(1,xB f)] []) ⟨(zI t),ls⟩ (λ_ f _ D j=>?_) (λy _ _ h E j=>?_)
  ·have F:=oO D;refine xV (jA 2 rfl (jL e λ_=>xA rfl (zX F (xP ?_))));exact jf ⟨j,ls⟩
  refine xV (jA 2 rfl (jL e λz=>xA rfl (kA (xZ h) (oJ ?_))));have j1:=bV (Ae h) z;refine qH (jA 2 rfl (jI e E λ_ G=>aT G λ_ I=>jo rfl (jB λK L=>(jk (λH=>laws_szInt64S_c aA (H.a I) j K L) λA=>xK rfl (oD 2 rfl (xW ?_ ?_))))))
  ·refine xN (qA 1 rfl (dB (zC (cV (eT ?_)))));exact qJ ⟨kV,lv⟩
  refine qM (jo rfl (oE (qE h z) (xA rfl ?_)));exact jg ⟨A,ls⟩
 refine oQ (qZ 2 rfl ?_);exact qJ ⟨C,lv⟩
def laws_szRel (d:Rel) (e:Int):Option Int:= xH (laws_szInt64SS d.tuples e) λc=>if (decide (c<0)) then some ((-1)) else some c
theorem laws_szRel_c {f c} {d} {e} (hN:HN B e) (p:Bo B e (qR 2 oR) d f) (h:xM c):∀ r,laws_szRel f c=some r->CG B e 47 #[d,xB c] (sI r):=by
 refine vW func47 [(0,d),(1,xB c)] hN λr=>?_;obtain⟨y,rfl,z,t⟩:=oR.o p;refine jX e2 λ_=>xK rfl (oH e2 (jb 0 e3 (jo rfl (jB λx i=>(jk (λH=>laws_szInt64SS_c aA (H.a t) h x i) λj=>xI rfl (oD 2 rfl (xW ?_ ?_)))))))
 ·refine xN (xT rfl ?_);exact qJ ⟨kV,lv⟩
 refine qG (qZ 2 rfl ?_);exact qJ ⟨j,lv⟩
def laws_szRelS (c:List Rel) (h:Int):Option Int:= xH (ck (h - (c.length:Int))) λd=>if (decide (d<0)) then some ((-1)) else qD (σ:=Int) (oM (λp (i:Rel) f=>xH (laws_szRel i f) λe=>if (decide (e<0)) then some (.ret ((-1))) else some (.go e)) c 0 d) λj=>some j
theorem laws_szRelS_c {p c} {d} {i} (hN:HN B i) (e:Bo B i (Sl 2 oR) d p) (M:xM c):∀ r,laws_szRelS p c=some r->CG B i 30 #[d,xB c] (sI r):=by
 refine vW func30 [(0,d),(1,xB c)] hN λr=>?_;refine xK rfl (jA 2 rfl (jL e λ_=>jB λN t=>(fR t (xI rfl (oD 2 rfl (xW ?_ ?_))))))
 ·refine xN (xT rfl ?_);exact qJ ⟨kV,lv⟩
 refine qY (xA rfl (vA (λx=>.fa (xM x) <| .st [(1,xB x)] []) ?_ (λ_ C=>?_)))
 ·
  refine zH ?_;refine jl (λy f=>.fa (xM f) <| .st [(5,xB (y:Int)),(0,d),(1,xB f)] []) ⟨(zI t),ls⟩ (λ_ f _ D j=>?_) (λy _ _ h E j=>?_)
  ·have F:=oO D;refine xV (jA 2 rfl (jL e λ_=>xA rfl (zX F (xP ?_))));exact jf ⟨j,ls⟩
  refine xV (jA 2 rfl (jL e λz=>xA rfl (kA (xZ h) (oJ ?_))));have j1:=bV (Ae h) z;refine qH (jA 2 rfl (jI e E λ_ G=>jlA G λ_ I=>jo rfl (jB λK L=>(jk (λH=>laws_szRel_c aA (H.a I) j K L) λA=>xK rfl (oD 2 rfl (xW ?_ ?_))))))
  ·refine xN (qA 1 rfl (dB (zC (cV (eT ?_)))));exact qJ ⟨kV,lv⟩
  refine qM (jo rfl (oE (qE h z) (xA rfl ?_)));exact jg ⟨A,ls⟩
 refine oQ (qZ 2 rfl ?_);exact qJ ⟨C,lv⟩
def laws_szTemplate (d:A6) (e:Int):Option Int:= xH (laws_szRelS d.rels e) λc=>if (decide (c<0)) then some ((-1)) else some c
theorem laws_szTemplate_c {f c} {d} {e} (hN:HN B e) (p:Bo B e (qR 2 xC) d f) (h:xM c):∀ r,laws_szTemplate f c=some r->CG B e 13 #[d,xB c] (sI r):=by
 refine vW func13 [(0,d),(1,xB c)] hN λr=>?_;obtain⟨y,rfl,z,t⟩:=xC.o p;refine jX e2 λ_=>xK rfl (oH e2 (jb 0 e3 (jo rfl (jB λx i=>(jk (λH=>laws_szRelS_c aA (H.a t) h x i) λj=>xI rfl (oD 2 rfl (xW ?_ ?_)))))))
 ·refine xN (xT rfl ?_);exact qJ ⟨kV,lv⟩
 refine qG (qZ 2 rfl ?_);exact qJ ⟨j,lv⟩
def laws_szCon (d:Con) (e:Int):Option Int:= xH (laws_szInt64S d.scope e) λc=>if (decide (c<0)) then some ((-1)) else some c
theorem laws_szCon_c {f c} {d} {e} (hN:HN B e) (p:Bo B e (qR 2 vH) d f) (h:xM c):∀ r,laws_szCon f c=some r->CG B e 72 #[d,xB c] (sI r):=by
 refine vW func72 [(0,d),(1,xB c)] hN λr=>?_;obtain⟨y,rfl,z,t⟩:=vH.o p;refine jX e2 λ_=>xK rfl (oH e2 (jb 0 e3 (jo rfl (jB λx i=>(jk (λH=>laws_szInt64S_c aA (H.a t) h x i) λj=>xI rfl (oD 2 rfl (xW ?_ ?_)))))))
 ·refine xN (xT rfl ?_);exact qJ ⟨kV,lv⟩
 refine qG (qZ 2 rfl ?_);exact qJ ⟨j,lv⟩
def laws_szConS (c:List Con) (h:Int):Option Int:= xH (ck (h - (c.length:Int))) λd=>if (decide (d<0)) then some ((-1)) else qD (σ:=Int) (oM (λp (i:Con) f=>xH (laws_szCon i f) λe=>if (decide (e<0)) then some (.ret ((-1))) else some (.go e)) c 0 d) λj=>some j
theorem laws_szConS_c {p c} {d} {i} (hN:HN B i) (e:Bo B i (Sl 2 vH) d p) (M:xM c):∀ r,laws_szConS p c=some r->CG B i 48 #[d,xB c] (sI r):=by
 refine vW func48 [(0,d),(1,xB c)] hN λr=>?_;refine xK rfl (jA 2 rfl (jL e λ_=>jB λN t=>(fR t (xI rfl (oD 2 rfl (xW ?_ ?_))))))
 ·refine xN (xT rfl ?_);exact qJ ⟨kV,lv⟩
 refine qY (xA rfl (vA (λx=>.fa (xM x) <| .st [(1,xB x)] []) ?_ (λ_ C=>?_)))
 ·
  refine zH ?_;refine jl (λy f=>.fa (xM f) <| .st [(5,xB (y:Int)),(0,d),(1,xB f)] []) ⟨(zI t),ls⟩ (λ_ f _ D j=>?_) (λy _ _ h E j=>?_)
  ·have F:=oO D;refine xV (jA 2 rfl (jL e λ_=>xA rfl (zX F (xP ?_))));exact jf ⟨j,ls⟩
  refine xV (jA 2 rfl (jL e λz=>xA rfl (kA (xZ h) (oJ ?_))));have j1:=bV (Ae h) z;refine qH (jA 2 rfl (jI e E λ_ G=>jlA G λ_ I=>jo rfl (jB λK L=>(jk (λH=>laws_szCon_c aA (H.a I) j K L) λA=>xK rfl (oD 2 rfl (xW ?_ ?_))))))
  ·refine xN (qA 1 rfl (dB (zC (cV (eT ?_)))));exact qJ ⟨kV,lv⟩
  refine qM (jo rfl (oE (qE h z) (xA rfl ?_)));exact jg ⟨A,ls⟩
 refine oQ (qZ 2 rfl ?_);exact qJ ⟨C,lv⟩
def laws_szInstance (d:A7) (e:Int):Option Int:= xH (laws_szConS d.cons e) λc=>if (decide (c<0)) then some ((-1)) else some c
theorem laws_szInstance_c {f c} {d} {e} (hN:HN B e) (p:Bo B e (qR 2 xJ) d f) (h:xM c):∀ r,laws_szInstance f c=some r->CG B e 31 #[d,xB c] (sI r):=by
 refine vW func31 [(0,d),(1,xB c)] hN λr=>?_;obtain⟨y,rfl,z,t⟩:=xJ.o p;refine jX e2 λ_=>xK rfl (oH e2 (jb 0 e3 (jo rfl (jB λx i=>(jk (λH=>laws_szConS_c aA (H.a t) h x i) λj=>xI rfl (oD 2 rfl (xW ?_ ?_)))))))
 ·refine xN (xT rfl ?_);exact qJ ⟨kV,lv⟩
 refine qG (qZ 2 rfl ?_);exact qJ ⟨j,lv⟩
def laws_szInstanceS (c:List A7) (h:Int):Option Int:= xH (ck (h - (c.length:Int))) λd=>if (decide (d<0)) then some ((-1)) else qD (σ:=Int) (oM (λp (i:A7) f=>xH (laws_szInstance i f) λe=>if (decide (e<0)) then some (.ret ((-1))) else some (.go e)) c 0 d) λj=>some j
theorem laws_szInstanceS_c {p c} {d} {i} (hN:HN B i) (e:Bo B i (Sl 2 xJ) d p) (M:xM c):∀ r,laws_szInstanceS p c=some r->CG B i 14 #[d,xB c] (sI r):=by
 refine vW func14 [(0,d),(1,xB c)] hN λr=>?_;refine xK rfl (jA 2 rfl (jL e λ_=>jB λN t=>(fR t (xI rfl (oD 2 rfl (xW ?_ ?_))))))
 ·refine xN (xT rfl ?_);exact qJ ⟨kV,lv⟩
 refine qY (xA rfl (vA (λx=>.fa (xM x) <| .st [(1,xB x)] []) ?_ (λ_ C=>?_)))
 ·
  refine zH ?_;refine jl (λy f=>.fa (xM f) <| .st [(5,xB (y:Int)),(0,d),(1,xB f)] []) ⟨(zI t),ls⟩ (λ_ f _ D j=>?_) (λy _ _ h E j=>?_)
  ·have F:=oO D;refine xV (jA 2 rfl (jL e λ_=>xA rfl (zX F (xP ?_))));exact jf ⟨j,ls⟩
  refine xV (jA 2 rfl (jL e λz=>xA rfl (kA (xZ h) (oJ ?_))));have j1:=bV (Ae h) z;refine qH (jA 2 rfl (jI e E λ_ G=>jlA G λ_ I=>jo rfl (jB λK L=>(jk (λH=>laws_szInstance_c aA (H.a I) j K L) λA=>xK rfl (oD 2 rfl (xW ?_ ?_))))))
  ·refine xN (qA 1 rfl (dB (zC (cV (eT ?_)))));exact qJ ⟨kV,lv⟩
  refine qM (jo rfl (oE (qE h z) (xA rfl ?_)));exact jg ⟨A,ls⟩
 refine oQ (qZ 2 rfl ?_);exact qJ ⟨C,lv⟩
def laws_szHouse (c:B6) (f:Int):Option Int:= xH (laws_szTemplate (A6.mk c.template.size c.template.rels) f) λd=>if (decide (d<0)) then some ((-1)) else xH (laws_szInstanceS c.jobs d) λe=>if (decide (e<0)) then some ((-1)) else some e
theorem laws_szHouse_c {f c} {d} {e} (hN:HN B e) (p:Bo B e (qR 4 vT) d f) (h:xM c):∀ r,laws_szHouse f c=some r->CG B e 4 #[d,xB c] (sI r):=by
 refine vW func4 [(0,d),(1,xB c)] hN λr=>?_;obtain⟨F,G,rfl,t,x,y,E⟩:=vT.o p;refine jX e2 λ_=>xK rfl (oH e2 (aH 0 e3 (jo rfl (jB λz A=>?_))));refine jk (λH=>laws_szTemplate_c aA (xC.m t (H.a x)) h z A) λi=>xI rfl (oD 2 rfl (xW ?_ ?_))
 ·refine xN (xT rfl ?_);exact qJ ⟨kV,lv⟩
 refine qG (oH e2 (jb 0 e3 (jo rfl (jB λC D=>(jk (λH=>laws_szInstanceS_c aA (H.a y) i C D) λj=>xI rfl (oD 2 rfl (xW ?_ ?_)))))))
 ·refine xN (xT rfl ?_);exact qJ ⟨kV,lv⟩
 refine qG (qZ 2 rfl ?_);exact qJ ⟨j,lv⟩
def laws_toInt64S (c:List Int):Option (List Int):= xH (nJ (0:Int) (c.length:Int)) λf=>qD (σ:=List Int) (oM (λd (h:Int) e=>xH (ix e (d:Int)) λj=>some (.go (e.set ((d:Int)).toNat h))) c 0 f) λi=>some i
theorem laws_toInt64S_c {t} {c} {h} (hN:HN B h) (d:Bo B h (Sl 1 xF) c t):∀ r,laws_toInt64S t=some r->CG B h 144 #[c] (.v λp=>.st (p) λD=>rl 1 xF 2 p r::D):=by
 refine vW func144 [(0,c)] hN λr=>?_;refine xK rfl (jo rfl (jL d λ_=>jB λM C=>?_));refine jRM (R:=xF) (λw=>⟨rfl,kS,rfl⟩) C λN=>xI rfl (xA rfl (vA (λE=>.v λi=>.st [(3,i)] [rl 1 xF 2 i E]) ?_ (λ_ i=>?_)))
 ·
  refine zH ?_;refine jl (λx j=>.v λe=>.st [(4,xB (x:Int)),(0,c),(3,e)] [rl 1 xF 2 e j]) ⟨_,ls⟩ (λ_ j _ F e=>?_) (λx O j f G e=>?_)
  ·have I:=oO F;refine xV (jA 2 rfl (jL d λ_=>xA rfl (zX I (xP ?_))));exact jf ⟨_,ls⟩
  refine xV (jA 2 rfl (jL d λy=>xA rfl (kA (xZ f) (oJ ?_))));have j2:=bV (Ae f) y;refine yP (jA 4 rfl (jI d G λ_ K=>aJ K λL=>jB λP z=>(jRl 0 z λ_ A=>jh (λH=>H.lw) (jS A (cI z) (λH=>Eo.int L) rfl (jh (λH=>H.tl) (dI (jo rfl (oE (qE f y) (xA rfl ?_)))))))));exact jg ⟨_,ls⟩
 refine oQ (qZ 2 rfl ?_);exact j1 (rt rfl) ⟨_,lv⟩
def laws_toInt64SS (c:List (List Int)):Option (List (List Int)):= xH (nJ ([]:(List Int)) (c.length:Int)) λf=>qD (σ:=List (List Int)) (oM (λd (h:(List Int)) e=>xH (laws_toInt64S h) λi=>xH (ix e (d:Int)) λp=>some (.go (e.set ((d:Int)).toNat i))) c 0 f) λj=>some j
theorem laws_toInt64SS_c {t} {c} {h} (hN:HN B h) (d:Bo B h (Sl 1 (zV 1 xF)) c t):∀ r,laws_toInt64SS t=some r->CG B h 96 #[c] (.v λp=>.st (p) λD=>rl 1 (zV 1 xF) 53 p r::D):=by
 refine vW func96 [(0,c)] hN λr=>?_;refine xK rfl (jo rfl (jL d λ_=>jB λO C=>?_));refine jRM (R:=(zV 1 xF)) (λw=>⟨_,rfl,Sl.nil _ _ _⟩) C λP=>xI rfl (xA rfl (vA (λE=>.v λi=>.st [(3,i)] [rl 1 (zV 1 xF) 53 i E]) ?_ (λ_ i=>?_)))
 ·
  refine zH ?_;refine jl (λx j=>.v λe=>.st [(4,xB (x:Int)),(0,c),(3,e)] [rl 1 (zV 1 xF) 53 e j]) ⟨_,ls⟩ (λ_ j _ F e=>?_) (λx _ j f G e=>?_)
  ·have I:=oO F;refine xV (jA 2 rfl (jL d λ_=>xA rfl (zX I (xP ?_))));exact jf ⟨_,ls⟩
  refine xV (jA 2 rfl (jL d λy=>xA rfl (kA (xZ f) (oJ ?_))));have j2:=bV (Ae f) y;refine yP (jA 4 rfl (jI d G λ_ K=>aT K λ_ L=>jB λM N=>(jk (λH=>laws_toInt64S_c aA (H.a L) M N) λ_=>jB λQ z=>(jRl 1 z λ_ A=>js [1,0] rfl (jSl A (cI z) rfl (dI (jo rfl (oE (qE f y) (xA rfl ?_)))))))));exact jg ⟨_,ls⟩
 refine oQ (qZ 2 rfl ?_);exact j1 (rt rfl) ⟨_,lv⟩
def laws_toRel (c:Rel):Option Rel:= xH (laws_toInt64SS c.tuples) λd=>some ((Rel.mk c.arity d))
theorem laws_toRel_c {f} {c} {d} (hN:HN B d) (h:Bo B d (qR 2 oR) c f):∀ r,laws_toRel f=some r->CG B d 57 #[c] (.v λe=>.fa (xM r.arity) <| .st (.agg #[xB r.arity,e]) λD=>rl 1 (zV 1 xF) 53 e r.tuples::D):=by
 refine vW func57 [(0,c)] hN λr=>?_;obtain⟨x,rfl,i,j⟩:=oR.o h;refine jX e2 λ_=>aM rfl λ_=>qS (aM rfl λ_=>qS (oH e2 (jb 2 e3 (oH e2 (jW e3 (qS (oH e2 (jb 2 e3 (jB λp t=>(jk (λH=>laws_toInt64SS_c aA (H.a j) p t) λy=>oH e2 ?_))))))))));refine js [1,0,2,3] rfl (jW (hv:=(λH=>(H.l 1 rfl).one)) e3 (qS (aH 0 e3 (js [2,0,1,3] rfl ?_))));refine kG (hv:=(λH=>oc rfl (oc (H.l 2 rfl).one on))) e3 (lU ?_);exact j1m (λH=>H.s [2] rfl rfl) (cN 0 e2) ⟨_,i,lv⟩
def laws_toRelS (c:List Rel):Option (List Rel):= xH (nJ ((Rel.mk 0 []):Rel) (c.length:Int)) λh=>qD (σ:=List Rel) (oM (λd (i:Rel) e=>xH (laws_toRel i) λf=>xH (ix e (d:Int)) λp=>some (.go (e.set ((d:Int)).toNat (Rel.mk f.arity f.tuples)))) c 0 h) λj=>some j
theorem laws_toRelS_c {t} {d} {h} (hN:HN B h) (e:Bo B h (Sl 2 oR) d t):∀ r,laws_toRelS t=some r->CG B h 35 #[d] (.v λp=>.st (p) λD=>rl 2 oR 99 p r::D):=by
 refine vW func35 [(0,d)] hN λr=>?_;refine xK rfl (jo rfl (jL e λ_=>jB λP C=>?_));refine jRM (R:=oR) (λw=>⟨_,[],rfl,kS,rfl,Sl.nil _ _ _,rfl⟩) C λQ=>xI rfl (xA rfl (vA (λE=>.v λi=>.st [(3,i)] [rl 2 oR 99 i E]) ?_ (λ_ i=>?_)))
 ·
  refine zH ?_;refine jl (λx j=>.v λc=>.st [(4,xB (x:Int)),(0,d),(3,c)] [rl 2 oR 99 c j]) ⟨_,ls⟩ (λ_ j _ F c=>?_) (λx _ j f G c=>?_)
  ·have I:=oO F;refine xV (jA 2 rfl (jL e λ_=>xA rfl (zX I (xP ?_))));exact jf ⟨_,ls⟩
  refine xV (jA 2 rfl (jL e λy=>xA rfl (kA (xZ f) (oJ ?_))));have j2:=bV (Ae f) y;refine yP (jA 4 rfl (jI e G λ_ K=>jlA K λ_ L=>jB λM N=>(jk (λH=>laws_toRel_c aA (H.a L) M N) λ_ O=>jB λS z=>(jRl 1 z λ_ A=>jh (λH=>oR.w O H) (js [1,0] rfl (jSA A (bD z) rfl (dI (jo rfl (oE (qE f y) (jo rfl ?_))))))))));refine aI ?_;exact jg ⟨_,ls⟩
 refine oQ (qZ 2 rfl ?_);exact j1 (rt rfl) ⟨_,lv⟩
def laws_toTemplate (c:A6):Option A6:= xH (laws_toRelS c.rels) λd=>some ((A6.mk c.size d))
theorem laws_toTemplate_c {f} {c} {d} (hN:HN B d) (h:Bo B d (qR 2 xC) c f):∀ r,laws_toTemplate f=some r->CG B d 16 #[c] (.v λe=>.fa (xM r.size) <| .st (.agg #[xB r.size,e]) λD=>rl 2 oR 99 e r.rels::D):=by
 refine vW func16 [(0,c)] hN λr=>?_;obtain⟨x,rfl,i,j⟩:=xC.o h;refine jX e2 λ_=>aM rfl λ_=>qS (aM rfl λ_=>qS (oH e2 (jb 2 e3 (oH e2 (jW e3 (qS (oH e2 (jb 2 e3 (jB λp t=>(jk (λH=>laws_toRelS_c aA (H.a j) p t) λy=>oH e2 ?_))))))))));refine js [1,0,2,3] rfl (jW (hv:=(λH=>(H.l 1 rfl).one)) e3 (qS (aH 0 e3 (js [2,0,1,3] rfl ?_))));refine kG (hv:=(λH=>oc rfl (oc (H.l 2 rfl).one on))) e3 (lU ?_);exact j1m (λH=>H.s [2] rfl rfl) (cN 0 e2) ⟨_,i,lv⟩
def laws_toCon (c:Con):Option Con:= xH (laws_toInt64S c.scope) λd=>some ((Con.mk c.rel d))
theorem laws_toCon_c {f} {c} {d} (hN:HN B d) (h:Bo B d (qR 2 vH) c f):∀ r,laws_toCon f=some r->CG B d 97 #[c] (.v λe=>.fa (xM r.rel) <| .st (.agg #[xB r.rel,e]) λD=>rl 1 xF 2 e r.scope::D):=by
 refine vW func97 [(0,c)] hN λr=>?_;obtain⟨x,rfl,i,j⟩:=vH.o h;refine jX e2 λ_=>aM rfl λ_=>qS (aM rfl λ_=>qS (oH e2 (jb 2 e3 (oH e2 (jW e3 (qS (oH e2 (jb 2 e3 (jB λp t=>(jk (λH=>laws_toInt64S_c aA (H.a j) p t) λy=>oH e2 ?_))))))))));refine js [1,0,2,3] rfl (jW (hv:=(λH=>(H.l 1 rfl).one)) e3 (qS (aH 0 e3 (js [2,0,1,3] rfl ?_))));refine kG (hv:=(λH=>oc rfl (oc (H.l 2 rfl).one on))) e3 (lU ?_);exact j1m (λH=>H.s [2] rfl rfl) (cN 0 e2) ⟨_,i,lv⟩
def laws_toConS (c:List Con):Option (List Con):= xH (nJ ((Con.mk 0 []):Con) (c.length:Int)) λh=>qD (σ:=List Con) (oM (λd (i:Con) e=>xH (laws_toCon i) λf=>xH (ix e (d:Int)) λp=>some (.go (e.set ((d:Int)).toNat (Con.mk f.rel f.scope)))) c 0 h) λj=>some j
theorem laws_toConS_c {t} {d} {h} (hN:HN B h) (e:Bo B h (Sl 2 vH) d t):∀ r,laws_toConS t=some r->CG B h 58 #[d] (.v λp=>.st (p) λD=>rl 2 vH 125 p r::D):=by
 refine vW func58 [(0,d)] hN λr=>?_;refine xK rfl (jo rfl (jL e λ_=>jB λP C=>?_));refine jRM (R:=vH) (λw=>⟨_,[],rfl,kS,rfl,Sl.nil _ _ _,rfl⟩) C λQ=>xI rfl (xA rfl (vA (λE=>.v λi=>.st [(3,i)] [rl 2 vH 125 i E]) ?_ (λ_ i=>?_)))
 ·
  refine zH ?_;refine jl (λx j=>.v λc=>.st [(4,xB (x:Int)),(0,d),(3,c)] [rl 2 vH 125 c j]) ⟨_,ls⟩ (λ_ j _ F c=>?_) (λx _ j f G c=>?_)
  ·have I:=oO F;refine xV (jA 2 rfl (jL e λ_=>xA rfl (zX I (xP ?_))));exact jf ⟨_,ls⟩
  refine xV (jA 2 rfl (jL e λy=>xA rfl (kA (xZ f) (oJ ?_))));have j2:=bV (Ae f) y;refine yP (jA 4 rfl (jI e G λ_ K=>jlA K λ_ L=>jB λM N=>(jk (λH=>laws_toCon_c aA (H.a L) M N) λ_ O=>jB λS z=>(jRl 1 z λ_ A=>jh (λH=>vH.w O H) (js [1,0] rfl (jSA A (bD z) rfl (dI (jo rfl (oE (qE f y) (jo rfl ?_))))))))));refine aI ?_;exact jg ⟨_,ls⟩
 refine oQ (qZ 2 rfl ?_);exact j1 (rt rfl) ⟨_,lv⟩
def laws_toInstance (c:A7):Option A7:= xH (laws_toConS c.cons) λd=>some ((A7.mk c.vars d))
theorem laws_toInstance_c {f} {c} {d} (hN:HN B d) (h:Bo B d (qR 2 xJ) c f):∀ r,laws_toInstance f=some r->CG B d 36 #[c] (.v λe=>.fa (xM r.vars) <| .st (.agg #[xB r.vars,e]) λD=>rl 2 vH 125 e r.cons::D):=by
 refine vW func36 [(0,c)] hN λr=>?_;obtain⟨x,rfl,i,j⟩:=xJ.o h;refine jX e2 λ_=>aM rfl λ_=>qS (aM rfl λ_=>qS (oH e2 (jb 2 e3 (oH e2 (jW e3 (qS (oH e2 (jb 2 e3 (jB λp t=>(jk (λH=>laws_toConS_c aA (H.a j) p t) λy=>oH e2 ?_))))))))));refine js [1,0,2,3] rfl (jW (hv:=(λH=>(H.l 1 rfl).one)) e3 (qS (aH 0 e3 (js [2,0,1,3] rfl ?_))));refine kG (hv:=(λH=>oc rfl (oc (H.l 2 rfl).one on))) e3 (lU ?_);exact j1m (λH=>H.s [2] rfl rfl) (cN 0 e2) ⟨_,i,lv⟩
def laws_toInstanceS (c:List A7):Option (List A7):= xH (nJ ((A7.mk 0 []):A7) (c.length:Int)) λh=>qD (σ:=List A7) (oM (λd (i:A7) e=>xH (laws_toInstance i) λf=>xH (ix e (d:Int)) λp=>some (.go (e.set ((d:Int)).toNat (A7.mk f.vars f.cons)))) c 0 h) λj=>some j
theorem laws_toInstanceS_c {t} {d} {h} (hN:HN B h) (e:Bo B h (Sl 2 xJ) d t):∀ r,laws_toInstanceS t=some r->CG B h 17 #[d] (.v λp=>.st (p) λD=>rl 2 xJ 77 p r::D):=by
 refine vW func17 [(0,d)] hN λr=>?_;refine xK rfl (jo rfl (jL e λ_=>jB λP C=>?_));refine jRM (R:=xJ) (λw=>⟨_,[],rfl,kS,rfl,Sl.nil _ _ _,rfl⟩) C λQ=>xI rfl (xA rfl (vA (λE=>.v λi=>.st [(3,i)] [rl 2 xJ 77 i E]) ?_ (λ_ i=>?_)))
 ·
  refine zH ?_;refine jl (λx j=>.v λc=>.st [(4,xB (x:Int)),(0,d),(3,c)] [rl 2 xJ 77 c j]) ⟨_,ls⟩ (λ_ j _ F c=>?_) (λx _ j f G c=>?_)
  ·have I:=oO F;refine xV (jA 2 rfl (jL e λ_=>xA rfl (zX I (xP ?_))));exact jf ⟨_,ls⟩
  refine xV (jA 2 rfl (jL e λy=>xA rfl (kA (xZ f) (oJ ?_))));have j2:=bV (Ae f) y;refine yP (jA 4 rfl (jI e G λ_ K=>jlA K λ_ L=>jB λM N=>(jk (λH=>laws_toInstance_c aA (H.a L) M N) λ_ O=>jB λS z=>(jRl 1 z λ_ A=>jh (λH=>xJ.w O H) (js [1,0] rfl (jSA A (bD z) rfl (dI (jo rfl (oE (qE f y) (jo rfl ?_))))))))));refine aI ?_;exact jg ⟨_,ls⟩
 refine oQ (qZ 2 rfl ?_);exact j1 (rt rfl) ⟨_,lv⟩
def laws_toHouse (c:B6):Option B6:= xH (laws_toTemplate (A6.mk c.template.size c.template.rels)) λd=>xH (laws_toInstanceS c.jobs) λe=>some ((B6.mk (A6.mk d.size d.rels) e c.clerks))
theorem laws_toHouse_c {h} {c} {d} (hN:HN B d) (j:Bo B d (qR 4 vT) c h):∀ r,laws_toHouse h=some r->CG B d 6 #[c] (.v λe=>.v λf=>.fa (xM r.template.size) <| .fa (xM r.clerks) <| .st (.agg #[xB r.template.size,e,f,xB r.clerks]) λD=>rl 2 oR 99 e r.template.rels::rl 2 xJ 77 f r.jobs::D):=by
 refine vW func6 [(0,c)] hN λr=>?_;obtain⟨F,G,rfl,p,t,x,i⟩:=vT.o j;refine jX e2 λ_=>aM rfl λ_=>qS (aM rfl λ_=>qS (oH e2 (aH 2 e3 (jB λy z=>?_))));refine jk (λH=>laws_toTemplate_c aA (xC.m p (H.a t)) y z) λI A=>oH e2 (js [1,0,2,3] rfl ?_);refine kG (hv:=(λH=>oc rfl (oc (H.l 1 rfl).one on))) e3 (qS (oH e2 (jb 3 e3 (jB λC E=>(jk (λH=>laws_toInstanceS_c aA (H.a x) C E) λK=>oH e2 (js [1,0,2,3,4] rfl (jW (hv:=(λH=>(H.l 1 rfl).one)) e3 (qS (oH e2 (jb 4 e3 (oH e2 (jW e3 (qS ?_)))))))))))));refine aH 0 e3 (js [3,0,1,2,4] rfl ?_);refine kG (hv:=(λH=>oc rfl (oc (H.l 3 rfl).one (oc (H.l 2 rfl).one (oc rfl on))))) e3 (lU ?_);exact j1m (λH=>H.s [3,2] rfl rfl) (cN 0 e2) ⟨_,_,A,i,lv⟩
def laws_eqInt64S (c d:List Int):Option Bool:= if ((c.length:Int) != (d.length:Int)) then some false else qD (σ:=Unit) (oM (λe (f:Int) s=>match s with | _=>xH (ix d (e:Int)) λh=>if (f != h) then some (.ret false) else some (.go ())) c 0 ()) λ_=>some true
theorem laws_eqInt64S_c {i j} {c d} {e} (hN:HN B e) (f:Bo B e (Sl 1 xF) c i) (p:Bo B e (Sl 1 xF) d j):∀ r,laws_eqInt64S i j=some r->CG B e 40 #[c,d] (sB r):=by
 refine vW func40 [(0,c),(1,d)] hN λr=>?_;refine xI rfl (jo rfl (jL f λ_=>jo rfl (jL p λ_=>xA rfl (xW ?_ ?_))))
 ·exact xN (xT rfl (qJ lv))
 refine qY (xA rfl (vA (λ_=>.st [] []) ?_ (λ_=>?_)))
 ·
  refine zH (jl (λt _=>.st [(5,xB (t:Int)),(0,c),(1,d)] []) ls (λ_ _ _ y=>?_) (λt _ _ h z=>?_))
  ·have A:=oO y;exact xV (jA 2 rfl (jL f λ_=>xA rfl (zX A (xP (jf ls)))))
  refine xV (jA 2 rfl (jL f λx=>xA rfl (kA (xZ h) (oJ ?_))));have j1:=bV (Ae h) x;refine sJ (jQ (vY 2 rfl (gU f z λ_ C=>kN C λ_=>vY 2 rfl (jB λF D=>(gU p D λ_ E=>kN E λ_=>vY 1 rfl (lE (dA (xW ?_ ?_))))))))
  ·exact xN (qA 1 rfl (dB (zC (cV (eT (qJ lv))))))
  exact qM (jo rfl (oE (qE h x) (xA rfl (jg ls))))
 exact oQ (xX rfl (qJ lv))
def laws_eqArcStep (c d:B1):Option Bool:= if (c.var != d.var) then some false else if (c.value != d.value) then some false else if (c.con != d.con) then some false else some true
theorem laws_eqArcStep_c {f h} {d e} {c} (hN:HN B c) (i:Bo B c (qR 3 xS) d f) (j:Bo B c (qR 3 xS) e h):∀ r,laws_eqArcStep f h=some r->CG B c 66 #[d,e] (sB r):=by
 refine vW func66 [(0,d),(1,e)] hN λr=>?_;obtain⟨rfl,t,x,y⟩:=xS.o i;refine jX e2 (λ_=>?_);obtain⟨rfl,z,p,A⟩:=xS.o j;refine jX e2 λ_=>xI rfl (oH e2 (jb 1 e3 (oH e2 (jb 0 e3 (xA rfl (xW ?_ ?_))))))
 ·exact xN (xT rfl (qJ lv))
 refine qY (oH e2 (jb 1 e3 (oH e2 (jb 0 e3 (xA rfl (xW ?_ ?_))))))
 ·exact xN (xT rfl (qJ lv))
 refine qY (oH e2 (jb 1 e3 (oH e2 (jb 0 e3 (xA rfl (xW ?_ ?_))))))
 ·exact xN (xT rfl (qJ lv))
 exact qG (xX rfl (qJ lv))
def laws_eqArcStepS (c d:List B1):Option Bool:= if ((c.length:Int) != (d.length:Int)) then some false else qD (σ:=Unit) (oM (λe (f:B1) s=>match s with | _=>xH (ix d (e:Int)) λh=>xH (laws_eqArcStep f h) λi=>if (!i) then some (.ret false) else some (.go ())) c 0 ()) λ_=>some true
theorem laws_eqArcStepS_c {i j} {c d} {e} (hN:HN B e) (f:Bo B e (Sl 3 xS) c i) (p:Bo B e (Sl 3 xS) d j):∀ r,laws_eqArcStepS i j=some r->CG B e 41 #[c,d] (sB r):=by
 refine vW func41 [(0,c),(1,d)] hN λr=>?_;refine xI rfl (jo rfl (jL f λ_=>jo rfl (jL p λ_=>xA rfl (xW ?_ ?_))))
 ·exact xN (xT rfl (qJ lv))
 refine qY (xA rfl (vA (λ_=>.st [] []) ?_ (λ_=>?_)))
 ·
  refine zH (jl (λt _=>.st [(5,xB (t:Int)),(0,c),(1,d)] []) ls (λ_ _ _ y=>?_) (λt _ _ h z=>?_))
  ·have A:=oO y;exact xV (jA 2 rfl (jL f λ_=>xA rfl (zX A (xP (jf ls)))))
  refine xV (jA 2 rfl (jL f λx=>xA rfl (kA (xZ h) (oJ ?_))));have j1:=bV (Ae h) x;refine sJ (jQ (vY 2 rfl (gU f z λ_ C=>xBk C λ_ D=>vY 2 rfl (jB λL E=>(gU p E λ_ F=>xBk F λ_ G=>jB λI K=>(jqk (λH=>laws_eqArcStep_c aA (H.a D) (H.a G) I K) (vY 1 rfl (lE (dA (xW ?_ ?_))))))))))
  ·exact xN (qA 1 rfl (dB (zC (cV (eT (qJ lv))))))
  exact qM (jo rfl (oE (qE h x) (xA rfl (jg ls))))
 exact oQ (xX rfl (qJ lv))
def laws_eqPairStep (c d:B0):Option Bool:= if (c.i != d.i) then some false else if (c.j != d.j) then some false else if (c.through != d.through) then some false else some true
theorem laws_eqPairStep_c {f h} {d e} {c} (hN:HN B c) (i:Bo B c (qR 3 xO) d f) (j:Bo B c (qR 3 xO) e h):∀ r,laws_eqPairStep f h=some r->CG B c 67 #[d,e] (sB r):=by
 refine vW func67 [(0,d),(1,e)] hN λr=>?_;obtain⟨rfl,t,x,y⟩:=xO.o i;refine jX e2 (λ_=>?_);obtain⟨rfl,z,p,A⟩:=xO.o j;refine jX e2 λ_=>xI rfl (oH e2 (jb 1 e3 (oH e2 (jb 0 e3 (xA rfl (xW ?_ ?_))))))
 ·exact xN (xT rfl (qJ lv))
 refine qY (oH e2 (jb 1 e3 (oH e2 (jb 0 e3 (xA rfl (xW ?_ ?_))))))
 ·exact xN (xT rfl (qJ lv))
 refine qY (oH e2 (jb 1 e3 (oH e2 (jb 0 e3 (xA rfl (xW ?_ ?_))))))
 ·exact xN (xT rfl (qJ lv))
 exact qG (xX rfl (qJ lv))
def laws_eqPairStepS (c d:List B0):Option Bool:= if ((c.length:Int) != (d.length:Int)) then some false else qD (σ:=Unit) (oM (λe (f:B0) s=>match s with | _=>xH (ix d (e:Int)) λh=>xH (laws_eqPairStep f h) λi=>if (!i) then some (.ret false) else some (.go ())) c 0 ()) λ_=>some true
theorem laws_eqPairStepS_c {i j} {c d} {e} (hN:HN B e) (f:Bo B e (Sl 3 xO) c i) (p:Bo B e (Sl 3 xO) d j):∀ r,laws_eqPairStepS i j=some r->CG B e 42 #[c,d] (sB r):=by
 refine vW func42 [(0,c),(1,d)] hN λr=>?_;refine xI rfl (jo rfl (jL f λ_=>jo rfl (jL p λ_=>xA rfl (xW ?_ ?_))))
 ·exact xN (xT rfl (qJ lv))
 refine qY (xA rfl (vA (λ_=>.st [] []) ?_ (λ_=>?_)))
 ·
  refine zH (jl (λt _=>.st [(5,xB (t:Int)),(0,c),(1,d)] []) ls (λ_ _ _ y=>?_) (λt _ _ h z=>?_))
  ·have A:=oO y;exact xV (jA 2 rfl (jL f λ_=>xA rfl (zX A (xP (jf ls)))))
  refine xV (jA 2 rfl (jL f λx=>xA rfl (kA (xZ h) (oJ ?_))));have j1:=bV (Ae h) x;refine sJ (jQ (vY 2 rfl (gU f z λ_ C=>xBk C λ_ D=>vY 2 rfl (jB λL E=>(gU p E λ_ F=>xBk F λ_ G=>jB λI K=>(jqk (λH=>laws_eqPairStep_c aA (H.a D) (H.a G) I K) (vY 1 rfl (lE (dA (xW ?_ ?_))))))))))
  ·exact xN (qA 1 rfl (dB (zC (cV (eT (qJ lv))))))
  exact qM (jo rfl (oE (qE h x) (xA rfl (jg ls))))
 exact oQ (xX rfl (qJ lv))
def laws_eqVerdict (c d:A9):Option Bool:= if (c.kind != d.kind) then some false else xH (laws_eqInt64S c.values d.values) λe=>if (!e) then some false else xH (laws_eqArcStepS c.arcs d.arcs) λf=>if (!f) then some false else xH (laws_eqPairStepS c.pairs d.pairs) λh=>if (!h) then some false else xH (laws_eqInt64S c.numbers d.numbers) λi=>if (!i) then some false else some true
theorem laws_eqVerdict_c {f h} {d e} {c} (hN:HN B c) (j:Bo B c (qR 5 oK) d f) (p:Bo B c (qR 5 oK) e h):∀ r,laws_eqVerdict f h=some r->CG B c 19 #[d,e] (sB r):=by
 refine vW func19 [(0,d),(1,e)] hN λr=>?_;obtain⟨P,Q,O,R,rfl,S,t,x,y,z⟩:=oK.o j;refine jX e2 (λ_=>?_);obtain⟨T,U,W,X,rfl,Y,A,C,D,E⟩:=oK.o p;refine jX e2 λ_=>xI rfl (oH e2 (jb 1 e3 (oH e2 (jb 0 e3 (xA rfl (xW ?_ ?_))))))
 ·exact xN (xT rfl (qJ lv))
 refine qY (oH e2 (jb 1 e3 (oH e2 (jb 0 e3 (jB λi F=>(jk (λH=>laws_eqInt64S_c aA (H.a t) (H.a A) i F) (xA rfl (xW ?_ ?_))))))))
 ·exact xN (xT rfl (qJ lv))
 refine qY (oH e2 (jb 1 e3 (oH e2 (jb 0 e3 (jB λG I=>(jk (λH=>laws_eqArcStepS_c aA (H.a x) (H.a C) G I) (xA rfl (xW ?_ ?_))))))))
 ·exact xN (xT rfl (qJ lv))
 refine qY (oH e2 (jb 1 e3 (oH e2 (jb 0 e3 (jB λK L=>(jk (λH=>laws_eqPairStepS_c aA (H.a y) (H.a D) K L) (xA rfl (xW ?_ ?_))))))))
 ·exact xN (xT rfl (qJ lv))
 refine qY (oH e2 (jb 1 e3 (oH e2 (jb 0 e3 (jB λM N=>(jk (λH=>laws_eqInt64S_c aA (H.a z) (H.a E) M N) (xA rfl (xW ?_ ?_))))))))
 ·exact xN (xT rfl (qJ lv))
 exact qG (xX rfl (qJ lv))
def laws_eqVerdictS (c d:List A9):Option Bool:= if ((c.length:Int) != (d.length:Int)) then some false else qD (σ:=Unit) (oM (λe (f:A9) s=>match s with | _=>xH (ix d (e:Int)) λh=>xH (laws_eqVerdict f h) λi=>if (!i) then some (.ret false) else some (.go ())) c 0 ()) λ_=>some true
theorem laws_eqVerdictS_c {i j} {c d} {e} (hN:HN B e) (f:Bo B e (Sl 5 oK) c i) (p:Bo B e (Sl 5 oK) d j):∀ r,laws_eqVerdictS i j=some r->CG B e 8 #[c,d] (sB r):=by
 refine vW func8 [(0,c),(1,d)] hN λr=>?_;refine xI rfl (jo rfl (jL f λ_=>jo rfl (jL p λ_=>xA rfl (xW ?_ ?_))))
 ·exact xN (xT rfl (qJ lv))
 refine qY (xA rfl (vA (λ_=>.st [] []) ?_ (λ_=>?_)))
 ·
  refine zH (jl (λt _=>.st [(5,xB (t:Int)),(0,c),(1,d)] []) ls (λ_ _ _ y=>?_) (λt _ _ h z=>?_))
  ·have A:=oO y;exact xV (jA 2 rfl (jL f λ_=>xA rfl (zX A (xP (jf ls)))))
  refine xV (jA 2 rfl (jL f λx=>xA rfl (kA (xZ h) (oJ ?_))));have j1:=bV (Ae h) x;refine sJ (jQ (vY 2 rfl (gU f z λ_ C=>xBk C λ_ D=>vY 2 rfl (jB λL E=>(gU p E λ_ F=>xBk F λ_ G=>jB λI K=>(jqk (λH=>laws_eqVerdict_c aA (H.a D) (H.a G) I K) (vY 1 rfl (lE (dA (xW ?_ ?_))))))))))
  ·exact xN (qA 1 rfl (dB (zC (cV (eT (qJ lv))))))
  exact qM (jo rfl (oE (qE h x) (xA rfl (jg ls))))
 exact oQ (xX rfl (qJ lv))
def laws_eqInt64SS (c d:List (List Int)):Option Bool:= if ((c.length:Int) != (d.length:Int)) then some false else qD (σ:=Unit) (oM (λe (f:(List Int)) s=>match s with | _=>xH (ix d (e:Int)) λh=>xH (laws_eqInt64S f h) λi=>if (!i) then some (.ret false) else some (.go ())) c 0 ()) λ_=>some true
theorem laws_eqInt64SS_c {i j} {c d} {e} (hN:HN B e) (f:Bo B e (Sl 1 (zV 1 xF)) c i) (p:Bo B e (Sl 1 (zV 1 xF)) d j):∀ r,laws_eqInt64SS i j=some r->CG B e 117 #[c,d] (sB r):=by
 refine vW func117 [(0,c),(1,d)] hN λr=>?_;refine xI rfl (jo rfl (jL f λ_=>jo rfl (jL p λ_=>xA rfl (xW ?_ ?_))))
 ·exact xN (xT rfl (qJ lv))
 refine qY (xA rfl (vA (λ_=>.st [] []) ?_ (λ_=>?_)))
 ·
  refine zH (jl (λt _=>.st [(5,xB (t:Int)),(0,c),(1,d)] []) ls (λ_ _ _ y=>?_) (λt _ _ h z=>?_))
  ·have A:=oO y;exact xV (jA 2 rfl (jL f λ_=>xA rfl (zX A (xP (jf ls)))))
  refine xV (jA 2 rfl (jL f λx=>xA rfl (kA (xZ h) (oJ ?_))));have j1:=bV (Ae h) x;refine sJ (jQ (vY 2 rfl (gU f z λ_ C=>eN C λ_ D=>vY 2 rfl (jB λL E=>(gU p E λ_ F=>eN F λ_ G=>jB λI K=>(jqk (λH=>laws_eqInt64S_c aA (H.a D) (H.a G) I K) (vY 1 rfl (lE (dA (xW ?_ ?_))))))))))
  ·exact xN (qA 1 rfl (dB (zC (cV (eT (qJ lv))))))
  exact qM (jo rfl (oE (qE h x) (xA rfl (jg ls))))
 exact oQ (xX rfl (qJ lv))
def laws_eqRel (c d:Rel):Option Bool:= if (c.arity != d.arity) then some false else xH (laws_eqInt64SS c.tuples d.tuples) λe=>if (!e) then some false else some true
theorem laws_eqRel_c {f h} {d e} {c} (hN:HN B c) (i:Bo B c (qR 2 oR) d f) (j:Bo B c (qR 2 oR) e h):∀ r,laws_eqRel f h=some r->CG B c 68 #[d,e] (sB r):=by
 refine vW func68 [(0,d),(1,e)] hN λr=>?_;obtain⟨A,rfl,C,p⟩:=oR.o i;refine jX e2 (λ_=>?_);obtain⟨z,rfl,D,t⟩:=oR.o j;refine jX e2 λ_=>xI rfl (oH e2 (jb 1 e3 (oH e2 (jb 0 e3 (xA rfl (xW ?_ ?_))))))
 ·exact xN (xT rfl (qJ lv))
 refine qY (oH e2 (jb 1 e3 (oH e2 (jb 0 e3 (jB λx y=>(jk (λH=>laws_eqInt64SS_c aA (H.a p) (H.a t) x y) (xA rfl (xW ?_ ?_))))))))
 ·exact xN (xT rfl (qJ lv))
 exact qG (xX rfl (qJ lv))
def laws_eqRelS (c d:List Rel):Option Bool:= if ((c.length:Int) != (d.length:Int)) then some false else qD (σ:=Unit) (oM (λe (f:Rel) s=>match s with | _=>xH (ix d (e:Int)) λh=>xH (laws_eqRel f h) λi=>if (!i) then some (.ret false) else some (.go ())) c 0 ()) λ_=>some true
theorem laws_eqRelS_c {i j} {c d} {e} (hN:HN B e) (f:Bo B e (Sl 2 oR) c i) (p:Bo B e (Sl 2 oR) d j):∀ r,laws_eqRelS i j=some r->CG B e 43 #[c,d] (sB r):=by
 refine vW func43 [(0,c),(1,d)] hN λr=>?_;refine xI rfl (jo rfl (jL f λ_=>jo rfl (jL p λ_=>xA rfl (xW ?_ ?_))))
 ·exact xN (xT rfl (qJ lv))
 refine qY (xA rfl (vA (λ_=>.st [] []) ?_ (λ_=>?_)))
 ·
  refine zH (jl (λt _=>.st [(5,xB (t:Int)),(0,c),(1,d)] []) ls (λ_ _ _ y=>?_) (λt _ _ h z=>?_))
  ·have A:=oO y;exact xV (jA 2 rfl (jL f λ_=>xA rfl (zX A (xP (jf ls)))))
  refine xV (jA 2 rfl (jL f λx=>xA rfl (kA (xZ h) (oJ ?_))));have j1:=bV (Ae h) x;refine sJ (jQ (vY 2 rfl (gU f z λ_ C=>xBk C λ_ D=>vY 2 rfl (jB λL E=>(gU p E λ_ F=>xBk F λ_ G=>jB λI K=>(jqk (λH=>laws_eqRel_c aA (H.a D) (H.a G) I K) (vY 1 rfl (lE (dA (xW ?_ ?_))))))))))
  ·exact xN (qA 1 rfl (dB (zC (cV (eT (qJ lv))))))
  exact qM (jo rfl (oE (qE h x) (xA rfl (jg ls))))
 exact oQ (xX rfl (qJ lv))
def laws_eqTemplate (c d:A6):Option Bool:= if (c.size != d.size) then some false else xH (laws_eqRelS c.rels d.rels) λe=>if (!e) then some false else some true
theorem laws_eqTemplate_c {f h} {d e} {c} (hN:HN B c) (i:Bo B c (qR 2 xC) d f) (j:Bo B c (qR 2 xC) e h):∀ r,laws_eqTemplate f h=some r->CG B c 20 #[d,e] (sB r):=by
 refine vW func20 [(0,d),(1,e)] hN λr=>?_;obtain⟨A,rfl,C,p⟩:=xC.o i;refine jX e2 (λ_=>?_);obtain⟨z,rfl,D,t⟩:=xC.o j;refine jX e2 λ_=>xI rfl (oH e2 (jb 1 e3 (oH e2 (jb 0 e3 (xA rfl (xW ?_ ?_))))))
 ·exact xN (xT rfl (qJ lv))
 refine qY (oH e2 (jb 1 e3 (oH e2 (jb 0 e3 (jB λx y=>(jk (λH=>laws_eqRelS_c aA (H.a p) (H.a t) x y) (xA rfl (xW ?_ ?_))))))))
 ·exact xN (xT rfl (qJ lv))
 exact qG (xX rfl (qJ lv))
def laws_eqCon (c d:Con):Option Bool:= if (c.rel != d.rel) then some false else xH (laws_eqInt64S c.scope d.scope) λe=>if (!e) then some false else some true
theorem laws_eqCon_c {f h} {d e} {c} (hN:HN B c) (i:Bo B c (qR 2 vH) d f) (j:Bo B c (qR 2 vH) e h):∀ r,laws_eqCon f h=some r->CG B c 118 #[d,e] (sB r):=by
 refine vW func118 [(0,d),(1,e)] hN λr=>?_;obtain⟨A,rfl,C,p⟩:=vH.o i;refine jX e2 (λ_=>?_);obtain⟨z,rfl,D,t⟩:=vH.o j;refine jX e2 λ_=>xI rfl (oH e2 (jb 1 e3 (oH e2 (jb 0 e3 (xA rfl (xW ?_ ?_))))))
 ·exact xN (xT rfl (qJ lv))
 refine qY (oH e2 (jb 1 e3 (oH e2 (jb 0 e3 (jB λx y=>(jk (λH=>laws_eqInt64S_c aA (H.a p) (H.a t) x y) (xA rfl (xW ?_ ?_))))))))
 ·exact xN (xT rfl (qJ lv))
 exact qG (xX rfl (qJ lv))
def laws_eqConS (c d:List Con):Option Bool:= if ((c.length:Int) != (d.length:Int)) then some false else qD (σ:=Unit) (oM (λe (f:Con) s=>match s with | _=>xH (ix d (e:Int)) λh=>xH (laws_eqCon f h) λi=>if (!i) then some (.ret false) else some (.go ())) c 0 ()) λ_=>some true
theorem laws_eqConS_c {i j} {c d} {e} (hN:HN B e) (f:Bo B e (Sl 2 vH) c i) (p:Bo B e (Sl 2 vH) d j):∀ r,laws_eqConS i j=some r->CG B e 69 #[c,d] (sB r):=by
 refine vW func69 [(0,c),(1,d)] hN λr=>?_;refine xI rfl (jo rfl (jL f λ_=>jo rfl (jL p λ_=>xA rfl (xW ?_ ?_))))
 ·exact xN (xT rfl (qJ lv))
 refine qY (xA rfl (vA (λ_=>.st [] []) ?_ (λ_=>?_)))
 ·
  refine zH (jl (λt _=>.st [(5,xB (t:Int)),(0,c),(1,d)] []) ls (λ_ _ _ y=>?_) (λt _ _ h z=>?_))
  ·have A:=oO y;exact xV (jA 2 rfl (jL f λ_=>xA rfl (zX A (xP (jf ls)))))
  refine xV (jA 2 rfl (jL f λx=>xA rfl (kA (xZ h) (oJ ?_))));have j1:=bV (Ae h) x;refine sJ (jQ (vY 2 rfl (gU f z λ_ C=>xBk C λ_ D=>vY 2 rfl (jB λL E=>(gU p E λ_ F=>xBk F λ_ G=>jB λI K=>(jqk (λH=>laws_eqCon_c aA (H.a D) (H.a G) I K) (vY 1 rfl (lE (dA (xW ?_ ?_))))))))))
  ·exact xN (qA 1 rfl (dB (zC (cV (eT (qJ lv))))))
  exact qM (jo rfl (oE (qE h x) (xA rfl (jg ls))))
 exact oQ (xX rfl (qJ lv))
def laws_eqInstance (c d:A7):Option Bool:= if (c.vars != d.vars) then some false else xH (laws_eqConS c.cons d.cons) λe=>if (!e) then some false else some true
theorem laws_eqInstance_c {f h} {d e} {c} (hN:HN B c) (i:Bo B c (qR 2 xJ) d f) (j:Bo B c (qR 2 xJ) e h):∀ r,laws_eqInstance f h=some r->CG B c 44 #[d,e] (sB r):=by
 refine vW func44 [(0,d),(1,e)] hN λr=>?_;obtain⟨A,rfl,C,p⟩:=xJ.o i;refine jX e2 (λ_=>?_);obtain⟨z,rfl,D,t⟩:=xJ.o j;refine jX e2 λ_=>xI rfl (oH e2 (jb 1 e3 (oH e2 (jb 0 e3 (xA rfl (xW ?_ ?_))))))
 ·exact xN (xT rfl (qJ lv))
 refine qY (oH e2 (jb 1 e3 (oH e2 (jb 0 e3 (jB λx y=>(jk (λH=>laws_eqConS_c aA (H.a p) (H.a t) x y) (xA rfl (xW ?_ ?_))))))))
 ·exact xN (xT rfl (qJ lv))
 exact qG (xX rfl (qJ lv))
def laws_eqInstanceS (c d:List A7):Option Bool:= if ((c.length:Int) != (d.length:Int)) then some false else qD (σ:=Unit) (oM (λe (f:A7) s=>match s with | _=>xH (ix d (e:Int)) λh=>xH (laws_eqInstance f h) λi=>if (!i) then some (.ret false) else some (.go ())) c 0 ()) λ_=>some true
theorem laws_eqInstanceS_c {i j} {c d} {e} (hN:HN B e) (f:Bo B e (Sl 2 xJ) c i) (p:Bo B e (Sl 2 xJ) d j):∀ r,laws_eqInstanceS i j=some r->CG B e 21 #[c,d] (sB r):=by
 refine vW func21 [(0,c),(1,d)] hN λr=>?_;refine xI rfl (jo rfl (jL f λ_=>jo rfl (jL p λ_=>xA rfl (xW ?_ ?_))))
 ·exact xN (xT rfl (qJ lv))
 refine qY (xA rfl (vA (λ_=>.st [] []) ?_ (λ_=>?_)))
 ·
  refine zH (jl (λt _=>.st [(5,xB (t:Int)),(0,c),(1,d)] []) ls (λ_ _ _ y=>?_) (λt _ _ h z=>?_))
  ·have A:=oO y;exact xV (jA 2 rfl (jL f λ_=>xA rfl (zX A (xP (jf ls)))))
  refine xV (jA 2 rfl (jL f λx=>xA rfl (kA (xZ h) (oJ ?_))));have j1:=bV (Ae h) x;refine sJ (jQ (vY 2 rfl (gU f z λ_ C=>xBk C λ_ D=>vY 2 rfl (jB λL E=>(gU p E λ_ F=>xBk F λ_ G=>jB λI K=>(jqk (λH=>laws_eqInstance_c aA (H.a D) (H.a G) I K) (vY 1 rfl (lE (dA (xW ?_ ?_))))))))))
  ·exact xN (qA 1 rfl (dB (zC (cV (eT (qJ lv))))))
  exact qM (jo rfl (oE (qE h x) (xA rfl (jg ls))))
 exact oQ (xX rfl (qJ lv))
def laws_eqHouse (c d:B6):Option Bool:= xH (laws_eqTemplate (A6.mk c.template.size c.template.rels) (A6.mk d.template.size d.template.rels)) λe=>if (!e) then some false else xH (laws_eqInstanceS c.jobs d.jobs) λf=>if (!f) then some false else if (c.clerks != d.clerks) then some false else some true
theorem laws_eqHouse_c {f h} {d e} {c} (hN:HN B c) (i:Bo B c (qR 4 vT) d f) (j:Bo B c (qR 4 vT) e h):∀ r,laws_eqHouse f h=some r->CG B c 9 #[d,e] (sB r):=by
 refine vW func9 [(0,d),(1,e)] hN λr=>?_;obtain⟨I,K,rfl,p,t,x,G⟩:=vT.o i;refine jX e2 (λ_=>?_);obtain⟨L,M,rfl,y,z,A,N⟩:=vT.o j;refine jX e2 λ_=>xI rfl (oH e2 (aH 1 e3 (oH e2 (aH 0 e3 (jB λC D=>?_)))));refine jk (λH=>laws_eqTemplate_c aA (xC.m p (H.a t)) (xC.m y (H.a z)) C D) (xA rfl (xW ?_ ?_))
 ·exact xN (xT rfl (qJ lv))
 refine qY (oH e2 (jb 1 e3 (oH e2 (jb 0 e3 (jB λE F=>(jk (λH=>laws_eqInstanceS_c aA (H.a x) (H.a A) E F) (xA rfl (xW ?_ ?_))))))))
 ·exact xN (xT rfl (qJ lv))
 refine qY (oH e2 (jb 1 e3 (oH e2 (jb 0 e3 (xA rfl (xW ?_ ?_))))))
 ·exact xN (xT rfl (qJ lv))
 exact qG (xX rfl (qJ lv))
def laws_heldInt64S (d:List Int) (e:Int):Option Int:= qD (σ:=Int) (oM (λj f c=>if (f != c) then some (.ret ((-1))) else xH (ck (c+1)) λh=>some (.go h)) d 0 e) λi=>some i
theorem laws_heldInt64S_c {j c} {d} {f} (hN:HN B f) (h:Bo B f (Sl 1 xF) d j) (z:xM c):∀ r,laws_heldInt64S j c=some r->CG B f 27 #[d,xB c] (sI r):=by
 refine vW func27 [(0,d),(1,xB c)] hN λr=>?_;refine xI rfl (xA rfl (vA (λp=>.fa (xM p) <| .st [(1,xB p)] []) ?_ (λ_ A=>?_)))
 ·
  refine zH ?_;refine jl (λt i=>.fa (xM i) <| .st [(5,xB (t:Int)),(0,d),(1,xB i)] []) ⟨z,ls⟩ (λ_ i _ C D=>?_) (λt _ _ e E _=>?_)
  ·have F:=oO C;refine xV (jA 2 rfl (jL h λ_=>xA rfl (zX F (xP ?_))));exact jf ⟨D,ls⟩
  refine xV (jA 2 rfl (jL h λx=>xA rfl (kA (xZ e) (oJ ?_))));have j1:=bV (Ae e) x;refine xPz (jA 2 rfl (jI h E λ_ G=>aJ G λ_=>oD 2 rfl (xW ?_ ?_)))
  ·refine xN (jo rfl (aZ (dB (zC (cV (eT ?_))))));exact qJ ⟨kV,lv⟩
  refine xLe (jo rfl (jB λH y=>(kE y (zL 1 rfl (jo rfl (oE (qE e x) (xA rfl ?_)))))));exact jg ⟨(zI y),ls⟩
 refine oQ (qZ 2 rfl ?_);exact qJ ⟨A,lv⟩
def laws_heldArcStepS (h:List B1) (i:Int):Option Int:= qD (σ:=Int) (oM (λt (c:B1) d=>if (c.var != d) then some (.ret ((-1))) else xH (ck (d+1)) λe=>if (c.value != e) then some (.ret ((-1))) else xH (ck (e+1)) λf=>if (c.con != f) then some (.ret ((-1))) else xH (ck (f+1)) λj=>some (.go j)) h 0 i) λp=>some p
theorem laws_heldArcStepS_c {p d} {e} {h} (hN:HN B h) (c:Bo B h (Sl 3 xS) e p) (A:xM d):∀ r,laws_heldArcStepS p d=some r->CG B h 28 #[e,xB d] (sI r):=by
 refine vW func28 [(0,e),(1,xB d)] hN λr=>?_;refine xI rfl (xA rfl (vA (λt=>.fa (xM t) <| .st [(1,xB t)] []) ?_ (λ_ C=>?_)))
 ·
  refine zH ?_;refine jl (λx i=>.fa (xM i) <| .st [(5,xB (x:Int)),(0,e),(1,xB i)] []) ⟨A,ls⟩ (λ_ i _ D E=>?_) (λx _ _ f j _=>?_)
  ·have F:=oO D;refine xV (jA 2 rfl (jL c λ_=>xA rfl (zX F (xP ?_))));exact jf ⟨E,ls⟩
  refine xV (jA 2 rfl (jL c λy=>xA rfl (kA (xZ f) (oJ ?_))));have j1:=bV (Ae f) y;refine xPz (jA 2 rfl (jI c j λ_ G=>kZ G xS.f0 λ_ H=>aJ H λ_=>oD 2 rfl (xW ?_ ?_)))
  ·refine xN (jo rfl (aZ (dB (zC (cV (eT ?_))))));exact qJ ⟨kV,lv⟩
  refine qG (jo rfl (jB λP I=>(kE I (xI rfl (jA 2 rfl (jI c j λ_ K=>kZ K xS.f1 λ_ L=>aJ L λ_=>oD 2 rfl (xW ?_ ?_)))))))
  ·refine xN (jo rfl (aZ (dB (zC (cV (eT ?_))))));exact qJ ⟨kV,lv⟩
  refine qG (jo rfl (jB λQ M=>(kE M (xI rfl (jA 2 rfl (jI c j λ_ N=>kZ N xS.f2 λ_ O=>aJ O λ_=>oD 2 rfl (xW ?_ ?_)))))))
  ·refine xN (jo rfl (aZ (dB (zC (cV (eT ?_))))));exact qJ ⟨kV,lv⟩
  refine xLe (jo rfl (jB λR z=>(kE z (zL 1 rfl (jo rfl (oE (qE f y) (xA rfl ?_)))))));exact jg ⟨(zI z),ls⟩
 refine oQ (qZ 2 rfl ?_);exact qJ ⟨C,lv⟩
def laws_heldPairStepS (h:List B0) (p:Int):Option Int:= qD (σ:=Int) (oM (λy (c:B0) d=>if (c.i != d) then some (.ret ((-1))) else xH (ck (d+1)) λe=>if (c.j != e) then some (.ret ((-1))) else xH (ck (e+1)) λf=>if (c.through != f) then some (.ret ((-1))) else xH (ck (f+1)) λt=>some (.go t)) h 0 p) λx=>some x
theorem laws_heldPairStepS_c {p d} {e} {h} (hN:HN B h) (c:Bo B h (Sl 3 xO) e p) (A:xM d):∀ r,laws_heldPairStepS p d=some r->CG B h 29 #[e,xB d] (sI r):=by
 refine vW func29 [(0,e),(1,xB d)] hN λr=>?_;refine xI rfl (xA rfl (vA (λt=>.fa (xM t) <| .st [(1,xB t)] []) ?_ (λ_ C=>?_)))
 ·
  refine zH ?_;refine jl (λx i=>.fa (xM i) <| .st [(5,xB (x:Int)),(0,e),(1,xB i)] []) ⟨A,ls⟩ (λ_ i _ D E=>?_) (λx _ _ f j _=>?_)
  ·have F:=oO D;refine xV (jA 2 rfl (jL c λ_=>xA rfl (zX F (xP ?_))));exact jf ⟨E,ls⟩
  refine xV (jA 2 rfl (jL c λy=>xA rfl (kA (xZ f) (oJ ?_))));have j1:=bV (Ae f) y;refine xPz (jA 2 rfl (jI c j λ_ G=>kZ G xO.f0 λ_ H=>aJ H λ_=>oD 2 rfl (xW ?_ ?_)))
  ·refine xN (jo rfl (aZ (dB (zC (cV (eT ?_))))));exact qJ ⟨kV,lv⟩
  refine qG (jo rfl (jB λP I=>(kE I (xI rfl (jA 2 rfl (jI c j λ_ K=>kZ K xO.f1 λ_ L=>aJ L λ_=>oD 2 rfl (xW ?_ ?_)))))))
  ·refine xN (jo rfl (aZ (dB (zC (cV (eT ?_))))));exact qJ ⟨kV,lv⟩
  refine qG (jo rfl (jB λQ M=>(kE M (xI rfl (jA 2 rfl (jI c j λ_ N=>kZ N xO.f2 λ_ O=>aJ O λ_=>oD 2 rfl (xW ?_ ?_)))))))
  ·refine xN (jo rfl (aZ (dB (zC (cV (eT ?_))))));exact qJ ⟨kV,lv⟩
  refine xLe (jo rfl (jB λR z=>(kE z (zL 1 rfl (jo rfl (oE (qE f y) (xA rfl ?_)))))));exact jg ⟨(zI z),ls⟩
 refine oQ (qZ 2 rfl ?_);exact qJ ⟨C,lv⟩
def laws_heldVerdictS (j:List A9) (p:Int):Option Int:= qD (σ:=Int) (oM (λy (c:A9) d=>if (c.kind != d) then some (.ret ((-1))) else xH (ck (d+1)) λt=>xH (laws_heldInt64S c.values t) λe=>if (decide (e<0)) then some (.ret ((-1))) else xH (laws_heldArcStepS c.arcs e) λf=>if (decide (f<0)) then some (.ret ((-1))) else xH (laws_heldPairStepS c.pairs f) λh=>if (decide (h<0)) then some (.ret ((-1))) else xH (laws_heldInt64S c.numbers h) λi=>if (decide (i<0)) then some (.ret ((-1))) else some (.go i)) j 0 p) λx=>some x
theorem laws_heldVerdictS_c {p e} {f} {i} (hN:HN B i) (c:Bo B i (Sl 5 oK) f p) (A:xM e):∀ r,laws_heldVerdictS p e=some r->CG B i 12 #[f,xB e] (sI r):=by
 refine vW func12 [(0,f),(1,xB e)] hN λr=>?_;refine xI rfl (xA rfl (vA (λt=>.fa (xM t) <| .st [(1,xB t)] []) ?_ (λ_ N=>?_)))
 ·
  refine zH ?_;refine jl (λx j=>.fa (xM j) <| .st [(5,xB (x:Int)),(0,f),(1,xB j)] []) ⟨A,ls⟩ (λ_ j _ O P=>?_) (λx _ _ h d _=>?_)
  ·have Q:=oO O;refine xV (jA 2 rfl (jL c λ_=>xA rfl (zX Q (xP ?_))));exact jf ⟨P,ls⟩
  refine xV (jA 2 rfl (jL c λy=>xA rfl (kA (xZ h) (oJ ?_))));have j1:=bV (Ae h) y;refine xPz (jA 2 rfl (jI c d λ_ R=>kZ R oK.f0 λ_ S=>aJ S λ_=>oD 2 rfl (xW ?_ ?_)))
  ·refine xN (jo rfl (aZ (dB (zC (cV (eT ?_))))));exact qJ ⟨kV,lv⟩
  refine qG (jo rfl (jB λz1 z=>(kE z (xK rfl (jA 2 rfl (jI c d λ_ T=>kZ T oK.f1 λ_ U=>aT U λ_ W=>jo rfl (jB λX Y=>(jk (λH=>laws_heldInt64S_c aA (H.a W) (zI z) X Y) λC=>xI rfl ?_))))))));refine oD 2 rfl (xW ?_ ?_)
  ·refine xN (jo rfl (aZ (dB (zC (cV (eT ?_))))));exact qJ ⟨kV,lv⟩
  refine qG (jA 2 rfl (jI c d λ_ Z=>kZ Z oK.f2 λ_ h7=>aT h7 λ_ h8=>jo rfl (jB λz3 c3=>(jk (λH=>laws_heldArcStepS_c aA (H.a h8) C z3 c3) λD=>xI rfl (oD 2 rfl (xW ?_ ?_))))))
  ·refine xN (jo rfl (aZ (dB (zC (cV (eT ?_))))));exact qJ ⟨kV,lv⟩
  refine qG (jA 2 rfl (jI c d λ_ h9=>kZ h9 oK.f3 λ_ E=>aT E λ_ F=>jo rfl (jB λz4 c4=>(jk (λH=>laws_heldPairStepS_c aA (H.a F) D z4 c4) λG=>xI rfl (oD 2 rfl (xW ?_ ?_))))))
  ·refine xN (jo rfl (aZ (dB (zC (cV (eT ?_))))));exact qJ ⟨kV,lv⟩
  refine qG (jA 2 rfl (jI c d λ_ I=>kZ I oK.f4 λ_ K=>aT K λ_ L=>jo rfl (jB λz5 c5=>(jk (λH=>laws_heldInt64S_c aA (H.a L) G z5 c5) λM=>xK rfl (oD 2 rfl (xW ?_ ?_))))))
  ·refine xN (qA 1 rfl (dB (zC (cV (eT ?_)))));exact qJ ⟨kV,lv⟩
  refine qM (jo rfl (oE (qE h y) (xA rfl ?_)));exact jg ⟨M,ls⟩
 refine oQ (qZ 2 rfl ?_);exact qJ ⟨N,lv⟩
def laws_FnExactVerdictsOf (N:Nat) (d:B6):Option Bool:= xH (laws_szHouse (B6.mk (A6.mk d.template.size d.template.rels) d.jobs d.clerks) 1048576) λp=>if (decide (p<0)) then some true else xH (laws_toHouse (B6.mk (A6.mk d.template.size d.template.rels) d.jobs d.clerks)) λc=>xH (mL N (B6.mk (A6.mk c.template.size c.template.rels) c.jobs c.clerks)) λf=>xH (mO N (B6.mk (A6.mk c.template.size c.template.rels) c.jobs c.clerks)) λe=>qD (σ:=Bool) (xH (laws_eqVerdictS e.1 f.1) λt=>if (!t) then some (.nx true) else some (.nx (e.2 != f.2))) λx=>if x then some false else xH (laws_eqHouse (B6.mk (A6.mk c.template.size c.template.rels) c.jobs c.clerks) (B6.mk (A6.mk c.template.size c.template.rels) c.jobs c.clerks)) λy=>if (!y) then some false else xH (laws_markHouse (B6.mk (A6.mk c.template.size c.template.rels) c.jobs c.clerks) 1) λz=>qD (σ:=Bool) (if (decide (z<0)) then some (.nx true) else xH (laws_eqVerdictS e.1 f.1) λA=>if (!A) then some (.nx true) else some (.nx (e.2 != f.2))) λB=>if B then some false else xH (laws_markVerdictS e.1 1) λi=>xH (laws_heldVerdictS i.2 1) λh=>if (decide (h<0)) then some false else if (h != i.1) then some false else qD (σ:=Bool) (xH (laws_eqVerdictS e.1 f.1) λj=>if (!j) then some (.nx true) else some (.nx (e.2 != f.2))) λC=>if C then some false else if (decide (h<0)) then some false else if (h != i.1) then some false else some true
theorem laws_FnExactVerdictsOf_c {N z} {E} {F} (hN:HN B F) (A0:Bo B F (qR 4 vT) E z):∀ r,laws_FnExactVerdictsOf N z=some r->CG B F 3 #[E] (sB r):=by
 refine vW func3 [(0,E)] hN λr=>?_;obtain⟨v1,v2,rfl,j,p,t,i⟩:=vT.o A0;refine jX e2 λG=>xK rfl (xK rfl (aH 0 e3 (jo rfl (jB λz1 c1=>?_))));refine jk (λH=>laws_szHouse_c aA (vT.m j (H.a p) (H.a t) i) xRd z1 c1) λav=>xI rfl (oD 2 rfl (xW ?_ ?_))
 ·exact xN (xT rfl (qJ lv))
 refine qG (aH 0 e3 (jB λe A=>?_));refine jk (λH=>laws_toHouse_c aA (vT.m j (H.a p) (H.a t) i) e A) λ_ _ i2 i3=>jh (λH=>H.mg) (cM λw1 X1 Q _ M f c _=>(jB λx c3=>?_));refine jk (λH=>xFi H.hN (vT.m i2 (H.u M.l.ld) (H.u M.r.ld) i3) x c3) λC _=>kW 5 rfl (aH 1 e3 ?_);refine jk (λH=>laws_toHouse_c aA (vT.m j (H.a (f p)) (H.a (f t)) i) e A) λR S I K=>aM rfl (λT=>?_);refine kG (hv:=(λH=>oc rfl (oc (H.l 1 rfl).one (oc (H.l 2 rfl).one (oc rfl on))))) e3 (qS (aH 0 e3 (jB λy U=>?_)));refine jk (λH=>uT aA (vT.m I (H.l 1 rfl) (H.l 2 rfl) K) y U) λh _=>jA 5 rfl (gL ?_);refine vA (λs1=>.st [(1,oU G),(4,C),(5,xB x.2),(6,oU T),(7,h),(8,xB y.2),(40,.bool s1)] [rl 5 oK 57 h y.1,bx T [xB e.template.size,R,S,xB e.clerks] 37,rl 2 oR 99 R e.template.rels,rl 2 xJ 77 S e.jobs,rw Q 5 oK 57 C x.1,bx G [xB z.template.size,v1,v2,xB z.clerks] 27]) ?_ (λ_=>?_)
 ·
  refine iQ (jA 2 rfl (jB λz5 c5=>(jk (λH=>laws_eqVerdictS_c aA (H.l 0 rfl) (H.r 4 rfl) z5 c5) (jA 2 rfl (dZ 36 (λ_=>?_) (λ_=>?_))))))
  ·exact oD 4 rfl (jf ls)
  exact oD 4 rfl (jf ls)
 refine dA (xW ?_ ?_)
 ·exact xN (xT rfl (js [0,1,2,3,5] rfl (kY c (jh (λH=>H.um) (qJ lv)))))
 refine xLr (jB λz6 c6=>(js [1,5,0,2,3,4] rfl (jh (λH=>H.mg) (cM λw2 X2 N2 _ W D d _=>?_))));have X:=W.l.bk;have Y:=W.r.bk;refine jD (rQ 0 rfl X e2 (rQ 1 rfl Y e2 (jE 2 rfl ?_)));refine jk (λH=>laws_toHouse_c aA (vT.m j (H.a (D (f p))) (H.a (D (f t))) i) e A) λv7 v8 i6 i7=>qT (jE 3 rfl ?_);refine jk (λH=>laws_eqHouse_c aA (vT.m I (H.l 3 rfl) (H.l 4 rfl) K) (vT.m i6 (H.l 0 rfl) (H.l 1 rfl) i7) z6 c6) (qT (zG [4] rfl (gV (dA (xW ?_ ?_)))))
 ·exact xN (xT rfl (kY d (jh (λH=>H.um) (js [0,1,2,3,4,5,6] rfl (kY c (jh (λH=>H.um) (qJ lv)))))))
 refine qG (xK rfl (oIq X e2 (jo rfl (js [3,0,1,2,4,5] rfl (jh (λH=>H.os) (js [4,0,1,2,3,5] rfl (jh (λH=>H.os) (jB λz7 c7=>(js [1,0,2,3,4,5] rfl (jko 2 (λK3 H=>laws_markHouse_c z7 c7 _ H.hN K3 I K zD) λ_=>jo rfl (gL ?_)))))))))));refine vA (λs2=>.st [(1,oU G),(4,C),(5,xB x.2),(7,h),(61,.bool s2)] [rl 5 oK 57 h y.1,rw Q 5 oK 57 C x.1]) ?_ (λ_=>?_)
 ·
  refine iQ (jA 3 rfl (dZ 51 (λ_=>?_) (λ_=>?_)))
  ·exact oD 10 rfl (js [2,3] rfl (jf ls))
  refine jA 2 rfl (jB λz8 c8=>(jk (λH=>laws_eqVerdictS_c aA (H.l 2 rfl) (H.r 3 rfl) z8 c8) (jA 3 rfl (dZ 57 (λ_=>?_) (λ_=>?_)))))
  ·exact oD 4 rfl (js [2,3] rfl (jf ls))
  exact oD 4 rfl (js [2,3] rfl (jf ls))
 refine dA (xW ?_ ?_)
 ·exact xN (xT rfl (kY d (jh (λH=>H.um) (js [0,1,2] rfl (kY c (jh (λH=>H.um) (qJ lv)))))))
 refine qG (xK rfl (jA 2 rfl (jh (λH=>H.os) (jB λL c9=>(jko 1 (λK4 H=>laws_markVerdictS_c L c9 _ H.hN K4 zD) λ_=>xK rfl (xK rfl (jA 2 rfl (jB λO P=>(jk (λH=>laws_heldVerdictS_c aA (H.o 0 rfl) zD O P) λZ=>jo rfl ?_)))))))));refine cY (oD 2 rfl (xW ?_ ?_))
 ·exact xN (xT rfl (kY d (jh (λH=>H.um) (js [0,1,2] rfl (kY c (jh (λH=>H.um) (qJ lv)))))))
 refine qY (oD 3 rfl (xW ?_ ?_))
 ·exact xN (xT rfl (kY d (jh (λH=>H.um) (js [0,1,2] rfl (kY c (jh (λH=>H.um) (qJ lv)))))))
 refine qG (oIq Y e2 ?_);refine jk (λH=>laws_toHouse_c aA (vT.m j (H.a (D (f p))) (H.a (D (f t))) i) e A) (λ_ _ i8 i9=>?_);refine jk (λH=>uT aA (vT.m i8 (H.l 0 rfl) (H.l 1 rfl) i9) y U) λ_ _=>jA 5 rfl (gL (vA (λs3=>.st [(7,h),(10,xB L.1),(87,.bool s3)] [ow (V:=(Sl 5 oK)) h L.2]) ?_ (λ_=>?_)))
 ·
  refine iQ (jA 2 rfl (jB λa0 a1=>(jk (λH=>laws_eqVerdictS_c aA (H.l 0 rfl) (H.r 4 rfl) a0 a1) (jA 2 rfl (dZ 83 (λ_=>?_) (λ_=>?_))))))
  ·exact oD 4 rfl (js [3] rfl (jf ls))
  exact oD 4 rfl (js [3] rfl (jf ls))
 refine dA (xW ?_ ?_)
 ·exact xN (xT rfl (kY d (jh (λH=>H.um) (kY c (jh (λH=>H.um) (qJ lv))))))
 refine qG (xK rfl (jA 2 rfl (jk (λH=>laws_heldVerdictS_c aA (H.o 0 rfl) zD O P) λZ=>xI rfl (oD 2 rfl (xW ?_ ?_)))))
 ·exact xN (xT rfl (kY d (jh (λH=>H.um) (kY c (jh (λH=>H.um) (qJ lv))))))
 refine qY (oD 3 rfl (xW ?_ ?_))
 ·exact xN (xT rfl (kY d (jh (λH=>H.um) (kY c (jh (λH=>H.um) (qJ lv))))))
 exact qG (xX rfl (kY d (jh (λH=>H.um) (kY c (jh (λH=>H.um) (qJ lv))))))
end
section
variable {ρ:Type} {σ:Type} {α:Type} {s':σ}
@[simp] theorem bnd_s {β:Type} (x:α) (k:α->Option β):xH (some x) k=k x:=rfl
@[simp] theorem bnd_n {β:Type} (k:α->Option β):xH none k=none:=rfl
@[simp] theorem thn_nx (s:σ) (k:σ->Option ρ):qD (some (.nx s)) k=k s:=rfl
@[simp] theorem thn_ret (r:ρ) (k:σ->Option ρ):qD (some (.ret r)) k=some r:=rfl
@[simp] theorem forL_nil' (b:Nat->α->σ->Option (Ctl σ ρ)) (k:Nat) (s:σ):oM b [] k s=some (.nx s):=rfl
theorem vS {b:Nat->α->σ->Option (Ctl σ ρ)} {x:α} {l:List α} {k:Nat} {s:σ} (h:b k x s=some (.go s')):oM b (x::l) k s=oM b l (k+1) s':=by simp only[oM,h]
theorem fE {b:Nat->α->σ->Option (Ctl σ ρ)} {x:α} {l:List α} {k:Nat} {s:σ} {r:ρ} (h:b k x s=some (.ret r)):oM b (x::l) k s=some (.ret r):=by simp only[oM,h]
theorem zQ {b:Nat->σ->Option (Ctl σ ρ)} {m k:Nat} {s:σ} (h:b k s=some (.go s')):qU b (m+1) k s=qU b m (k+1) s':=by simp only[qU,h]
theorem lK {b:Nat->σ->Option (Ctl σ ρ)} {m k:Nat} {s:σ} {r:ρ} (h:b k s=some (.ret r)):qU b (m+1) k s=some (.ret r):=by simp only[qU,h]
theorem eF {b:σ->Option (Ctl σ ρ)} {m:Nat} {s:σ} (h:b s=some (.go s')):lF b (m+1) s=lF b m s':=by simp only[lF,h]
theorem bU {b:σ->Option (Ctl σ ρ)} {m:Nat} {s:σ} (h:b s=some (.brk s')):lF b (m+1) s=some (.nx s'):=by simp only[lF,h]
theorem wP {b:σ->Option (Ctl σ ρ)} {m:Nat} {s:σ} {r:ρ} (h:b s=some (.ret r)):lF b (m+1) s=some (.ret r):=by simp only[lF,h]
def fnd {α ρ:Type} (q:Nat->α->Option ρ):List α->Nat->Option ρ
 | [],_=>none
 | x::l,k=>match q k x with | some r=>some r | none=>fnd q l (k+1)
def xAu:Option ρ->Ctl Unit ρ | some r=>.ret r | none=>.go ()
def xIv:Option ρ->Out Unit ρ | some r=>.ret r | none=>.nx ()
theorem cR {α ρ:Type} (q:Nat->α->Option ρ) {b:Nat->α->Unit->Option (Ctl Unit ρ)}:∀ {l:List α} {k:Nat},(∀ j x,l[j]?=some x->b (k+j) x ()=some (xAu (q (k+j) x)))->oM b l k ()=some (xIv (fnd q l k))
 | [],_,_=>rfl
 | x::l,k,h=>by
  have h0:=h 0 x rfl;rw[Cd] at h0
  unfold fnd
  cases hq:q k x with
  | some r=>rw[hq] at h0;exact fE h0
  | none=>
   rw[hq] at h0;rw[vS (s':=()) h0];exact cR q (λj y hj=>by rw[Dn,Ep 1 j];exact h (j+1) y hj)
theorem sY {α ρ:Type} {p:α->Bool} {r:ρ}:∀ {l:List α} {k:Nat},fnd (λ_ x=>if p x then some r else none) l k=if l.any p then some r else none
 | [],_=>rfl
 | x::l,k=>by
  unfold fnd
  by_cases h:p x=true
  ·simp [h]
  ·have hp:p x=false:=vV h
   simp only[hp,Ea,En];exact sY
theorem xSy {α ρ:Type} {f g:Nat->α->Unit->Option (Ctl Unit ρ)} (Inv:Nat->Prop) (Q:ρ->Prop):∀ {l:List α} {k:Nat},Inv k->(∀ j x,l[j]?=some x->Inv (k+j)->∃ q:Option ρ,f (k+j) x ()=some (xAu q)/\g (k+j) x ()=some (xAu q)/\(q=none->Inv (k+j+1))/\∀ r,q=some r->Q r)->∃ q:Option ρ,oM f l k ()=some (xIv q)/\oM g l k ()=some (xIv q)/\(q=none->Inv (k+l.length))/\∀ r,q=some r->Q r
 | [],_,hi,_=>⟨none,rfl,rfl,λ_=>hi,λ_ h=>nomatch h⟩
 | x::l,k,hi,h=>by
  obtain⟨q,hf,hg,hq,hQ⟩:=h 0 x rfl hi;rw[Cd] at hf hg hq
  cases q with
  | some r=>exact⟨some r,fE hf,fE hg,(λh=>nomatch h),hQ⟩
  | none=>
   rw[vS (s':=()) hf,vS (s':=()) hg]
   obtain⟨q,h1,h2,h3,h4⟩:=xSy (l:=l) (k:=k+1) Inv Q (hq rfl) (λj y hj qa=>by
    rw[Dn,Ep 1 j] at qa ⊢
    exact h (j+1) y hj qa)
   exact⟨q,h1,h2,(λe=>by have:=h3 e;rw[Ao,Ep l.length 1,<- Dn];exact this),h4⟩
theorem iU {l:List α} {i:Int} {x:α} (h0:0<=i) (h:l[i.toNat]?=some x):ix l i=some x:=by unfold ix;rw[if_pos h0];exact h
theorem vD {l:List α} {i:Nat} {x:α} (h:l[i]?=some x):ix l (i:Int)=some x:=iU xG (vV h)
theorem zO {x:Int} (h0: -9223372036854775808<=x) (h1:x<=9223372036854775807):ck x=some x:=if_pos ⟨h0,h1⟩
theorem aC {l m:List α} (h:(l.length+m.length)*1024<=140737488355328):ap l m=some (l++m):=if_pos h
theorem uJ (l:List α) (p:α->Bool) (f:α->Option Bool) (hf:∀ x∈l,f x=some (p x)):∃ i:Int,qD (oM (σ:=Unit) (ρ:=Int) (λk (x:α) s =>match s with | _=>xH (f x) λz=>if z then some (.ret ((k:Int))) else some (.go ())) l 0 ()) (λ_=>some (-1))=some i/\decide (0<=i)=l.any p:=by
 rw[cR (λk x=>if p x then some (k:Int) else none) (λj x hj=>by
  simp only[hf x (Af hj),bnd_s]
  by_cases hv:p x=true
  ·simp [hv,xAu]
  ·simp [hv,xAu])]
 have key:∀ (l:List α) (k:Nat),(l.any p=true/\∃ i:Nat,fnd (λk x=>if p x then some (k:Int) else none) l k=some (i:Int))∨(l.any p=false/\fnd (λk x=>if p x then some (k:Int) else none) l k=none):=by
  intro l
  induction l with
  | nil=>intro k;exact .inr ⟨rfl,rfl⟩
  | cons x l ih=>
   intro k
   unfold fnd
   by_cases hv:p x=true
   ·exact .inl ⟨by simp [hv],k,by simp [hv]⟩
   ·have qa:p x=false:=vV hv
    rcases ih (k+1) with ⟨h1,i,h2⟩ | ⟨h1,h2⟩
    ·exact .inl ⟨by simp [h1],i,by simp [qa,h2]⟩
    ·exact .inr ⟨by simp [h1,qa],by simp [qa,h2]⟩
 rcases key l 0 with ⟨h1,i,h2⟩ | ⟨h1,h2⟩
 ·rw[h2];exact⟨i,rfl,by simp [h1]⟩
 ·rw[h2];exact⟨-1,rfl,by simp [h1]⟩
end
section
variable {N:Nat}
theorem own_eq (l:List Int) (h:l.length<=1048576):kF l=some l:=by
 unfold kF
 rw[aC (by simp only[Bh];omega),bnd_s];rfl
theorem xSg (l:List Int) (h:l.length<=1048576):oV l=some l:=by
 unfold oV
 rw[aC (by simp only[Bh];omega),bnd_s];rfl
theorem xHf (l:List Int) (a:Int):dR l a=some (l.any (· == a)):=by
 unfold dR
 rw[cR (λ_ x=>if x==a then some true else none) (λj x hj=>by by_cases h:(x==a)=true<;>simp [h,xAu]),sY]
 cases h:l.any (· == a)<;>rfl
theorem xCh (l:List Int) (a:Int):zA l a=some (l.any (· == a)):=by
 unfold zA
 obtain⟨i,h1,h2⟩:=uJ l (λx=>a==x) (λx=>some (a==x)) (λ_ _=>rfl);have h3:eK l a=some i:=h1;rw[h3,bnd_s,h2]
 congr 2
 funext x
 exact Bool.beq_comm
theorem xGu {ρ:Type} {b:Nat->Int->List Int->Option (Ctl (List Int) ρ)} (p:Int->Bool) (hb:∀ k x s,s.length<=2097152->b k x s=some (.go (if p x then s++[x] else s))):∀ (l:List Int) (k:Nat) (s:List Int),s.length+l.length<=2097152->oM b l k s=some (.nx (s++l.filter p))
 | [],_,s,_=>vK
 | x::l,k,s,h=>by
  rw[Ao] at h;rw[vS (hb k x s xG)]
  cases hp:p x with
  | true=>rw[if_pos rfl,xGu p hb l _ _ (by simp only[Ar,Am];omega),Dz,hp,Dl];rfl
  | false=>rw[if_neg vK,xGu p hb l _ _ xG,Dz,hp];rfl
theorem xNm (l:List Int) (a:Int) (h:l.length<=1048576):dH l a=some (l.filter (· != a)):=by
 unfold dH
 rw[xGu (λx=>x != a) (λk x s hs=>by
  by_cases hx:(x != a)=true
  ·rw[if_pos hx,if_pos hx,aC (by simp only[Ao,Bh];omega),bnd_s]
  ·rw[if_neg hx,if_neg hx]) l 0 [] (by simp only[Bh];omega),thn_nx]
 simp
def xNb (p:Int->Bool):List Int->Nat->Option Nat | [],_=>none | x::l,k=>if p x then some k else xNb p l (k+1)
theorem xOy (p:Int->Bool):∀ (l:List Int) (k:Nat),(xNb p l k=none/\l.filter (λx=>!p x)=l)∨∃ i,i<l.length/\xNb p l k=some (k+i)/\(l.take i).filter (λx=>!p x)=l.take i/\∃ x,l[i]?=some x/\p x=true
 | [],_=>.inl ⟨rfl,rfl⟩
 | x::l,k=>by
  by_cases h:p x=true
  ·exact .inr ⟨0,vK,by simp [xNb,h],rfl,x,rfl,h⟩
  ·have h':p x=false:=vV h
   rcases xOy p l (k+1) with ⟨h1,h2⟩ | ⟨i,h1,h2,h3,y,h4,h5⟩
   ·exact .inl ⟨by simp [xNb,h',h1],by rw[Dz];simp [h',h2]⟩
   ·refine .inr ⟨i+1,by simp;omega,by simp [xNb,h',h2];omega,?_,y,vV h4,h5⟩
    rw[List.take_succ_cons,Dz];simp [h',h3]
theorem xRl (p:Int->Bool):∀ (l:List Int) (k:Nat),fnd (λk x=>if p x then some (k:Int) else none) l k=(xNb p l k).map (λi=>(i:Int))
 | [],_=>rfl
 | x::l,k=>by
  unfold fnd xNb
  by_cases h:p x=true
  ·simp [h]
  ·have h':p x=false:=vV h
   simp only[h',Ah,if_false];exact xRl p l (k+1)
theorem oAa (l:List Int) (p:Int->Bool) (f:Int->Option Bool) (hf:∀ x,f x=some (p x)):qK l f=some (match xNb p l 0 with | some i=>(i:Int) | none=>-1):=by
 have h0:qK l f=qD (oM (σ:=Unit) (ρ:=Int) (λk (x:Int) s=>match s with | _=>xH (f x) λz=>if z then some (.ret (k:Int)) else some (.go ())) l 0 ()) (λ_=>some (-1)):=rfl;rw[h0,cR (λk x=>if p x then some (k:Int) else none) (λj x hj=>by simp only[hf,bnd_s];by_cases hv:p x=true<;>simp [hv,xAu]),xRl]
 cases xNb p l 0<;>rfl
theorem xNe {l:List Int} {i:Nat} (h:i<l.length) (x:Int):(l.set i x).take (i+1)=l.take i++[x]:=by
 rw[List.take_add_one,List.take_set,Ai h]
 congr 1
 rw[List.set_eq_of_length_le (by simp;omega)]
theorem xYl {l:List Int} {i j:Nat} (h:i<j) (x:Int):(l.set i x).drop j=l.drop j:=by
 apply Cr
 intro k;rw[Dv,Dv,Ak xG]
theorem oBh (p:Int->Bool) (f:Int->Option Bool) (hf:∀ x,f x=some (p x)) (l:List Int) (hl:l.length<=1048576):∀ (N i j:Nat) (m:List Int),l.length - j<N->i<j->j<=l.length->m.length=l.length->m.take i=(l.take j).filter (λx=>!p x)->m.drop j=l.drop j->
 ∃ (i':Nat) (m':List Int),lF (σ:=Int×Int×(List Int)) (ρ:=List Int) (λs=>match s with | (s1,s2,s3)=>if (decide (s2<(s3.length:Int))) then xH (ix s3 s2) λz1=>xH (f z1) λz2=>if (!z2) then xH (ix s3 s1) λz3=>xH (ck (s1+1)) λz4=>xH (ck (s2+1)) λz5=>some (.go (z4,z5,(s3.set (s1).toNat z1))) else xH (ck (s2+1)) λz6=>some (.go (s1,z6,s3)) else some (.brk (s1,s2,s3))) N ((i:Int),(j:Int),m)=some (.nx ((i':Int),((l.length:Nat):Int),m'))/\i'<=m'.length/\m'.length=l.length/\m'.take i'=l.filter (λx=>!p x):=by
 intro N
 induction N with
 | zero=>intro i j m h;omega
 | succ N ih=>
  intro i j m hN hij hj hm ht hd
  by_cases qf:j<l.length
  ·have qg:m[j]?=l[j]?:=by
    have:=congrArg (λq=>q[0]?) hd
    simpa [Dv] using this
   have qa:l[j]?=some l[j]:=Aa qf;have hx:ix m (j:Int)=some l[j]:=vD (qg.trans qa);have hi:ix m (i:Int)=some m[i]:=vD (Aa xG);have qc:ck ((j:Int)+1)=some (((j+1:Nat)):Int):=zO xG xG;have qh:ck ((i:Int)+1)=some (((i+1:Nat)):Int):=zO xG xG
   have qd:(l.take (j+1)).filter (λx=>!p x)=(l.take j).filter (λx=>!p x)++(if p l[j] then [] else [l[j]]):=by
    rw[List.take_add_one,qa,List.filter_append]
    cases hp:p l[j]<;>simp [hp]
   have qe:m.drop (j+1)=l.drop (j+1):=by
    have:=congrArg (List.drop 1) hd
    simpa [Es] using this
   cases hp:p l[j] with
   | true=>
    obtain⟨i',m',h1,h2⟩:=ih i (j+1) m xG xG xG hm (by rw[qd,hp,ht];simp) qe;refine⟨i',m',?_,h2⟩;rw[eF (s':=((i:Int),((j+1:Nat):Int),m)) (by simp only[hm];rw[if_pos (by simp;omega),hx,bnd_s,hf,bnd_s,hp,qc,bnd_s];rfl),h1]
   | false=>
    obtain⟨i',m',h1,h2⟩:=ih (i+1) (j+1) (m.set i l[j]) xG xG xG (vV hm) (by rw[qd,hp,xNe xG,ht];simp) (by rw[xYl xG,qe]);refine⟨i',m',?_,h2⟩;rw[eF (s':=(((i+1:Nat):Int),((j+1:Nat):Int),m.set i l[j])) (by simp only[hm];rw[if_pos (by simp;omega),hx,bnd_s,hf,bnd_s,hp,hi];simp only[Co,if_true,bnd_s,qc,qh,Ad]),h1]
  ·obtain rfl:j=l.length:=xG
   refine⟨i,m,?_,xG,hm,by rw[ht,List.take_length]⟩;exact bU (by simp only[hm];rw[if_neg vK])
theorem xMq (l:List Int) (p:Int->Bool) (f:Int->Option Bool) (hf:∀ x,f x=some (p x)) (hl:l.length<=1048576) (hN:l.length<N):kK N l f=some (l.filter (λx=>!p x)):=by
 unfold kK
 rw[oAa l p f hf,bnd_s]
 rcases xOy p l 0 with ⟨h1,h2⟩ | ⟨i,h1,h2,h3,x,h4,h5⟩
 ·rw[h1,h2];rfl
 ·rw[h2,Bn]
  simp only;rw[if_neg (by simp<;>omega),show ck ((i:Int)+1)=some (((i+1:Nat)):Int) from zO xG xG,bnd_s]
  obtain⟨i',m',g1,g2,g3,g4⟩:=oBh p f hf l hl N i (i+1) l xG xG xG rfl (by
   rw[List.take_add_one,h4,List.filter_append,h3]
   simp [h5]) rfl
  rw[g1,thn_nx];simp only
  have qa:sl m' (i':Int) (m'.length:Int)=some ((m'.take m'.length).drop i'):=by
   unfold sl;rw[if_pos ⟨xG,xG,xG⟩];simp
  have qc:sl (m'.take i'++List.replicate (m'.length - i') (0:Int)) 0 (i':Int)=some (m'.take i'):=by
   unfold sl
   rw[if_pos ⟨xG,xG,by simp;omega⟩];simp only[Ad,show(0:Int).toNat=0 from rfl,Ex];rw[Cx (by simp;omega),List.take_take,Nat.min_self]
  rw[qa,bnd_s];simp only[Ad];rw[qc,bnd_s,g4]
theorem xUh (l:List Int) (a:Int) (hl:l.length<=1048576) (hN:l.length<N):gP N l a=some (l.filter (· != a)):=by
 unfold gP
 rw[xSg l hl,bnd_s,xMq l (λx=>x==a) (λa0=>uF a0 a) (λx=>rfl) hl hN,bnd_s]
 rfl
theorem wW {ρ:Type} {b:Nat->Unit->Option (Ctl Unit ρ)} (p:Nat->Bool) (r:ρ):∀ (m k:Nat),(∀ j,k<=j->j<k+m->b j ()=some (if p j then .ret r else .go ()))->qU b m k ()=some (if (List.range' k m).any p then .ret r else .nx ())
 | 0,k,_=>rfl
 | m+1,k,h=>by
  have h0:=h k (Az _) xG
  cases hp:p k with
  | true=>rw[hp] at h0;rw[lK h0,Dw,Ea,hp];rfl
  | false=>
   rw[hp] at h0;rw[zQ (s':=()) h0,wW p r m (k+1) (λj h1 h2=>h j xG xG),Dw,Ea,hp]
   rfl
def agP (sc t:List Int) (k j:Nat):Bool:=(sc.getD k 0==sc.getD j 0) && (t.getD k 0 != t.getD j 0)
def agB (sc t:List Int):Bool:=!((List.range' 0 sc.length).any λk=>(List.range' 0 k).any (agP sc t k))
theorem xHl {α:Type} (g:Nat->Bool):∀ (l:List α) (k:Nat),fnd (λk _=>if g k then some false else none) l k=if (List.range' k l.length).any g then some false else none
 | [],_=>rfl
 | x::l,k=>by
  unfold fnd
  rw[Ao,Dw,Ea]
  by_cases h:g k=true
  ·simp [h]
  ·have h':g k=false:=vV h
   simp only[h',Ah,if_false,En];exact xHl g l (k+1)
theorem xQl {l:List Int} {k:Nat} {x:Int} (h:l[k]?=some x):l.getD k 0=x:=by rw[Ap,h];rfl
theorem gJ {l:List Int} {k:Nat} (h:k<l.length):ix l (k:Int)=some (l.getD k 0):=vD (by rw[Aa h,xQl (Aa h)])
theorem xOq (c:Con) (t:List Int) (h:t.length=c.scope.length):iE c t=some (agB c.scope t):=by
 unfold iE
 rw[cR (λk _=>if (List.range' 0 k).any (agP c.scope t k) then some false else none) (λj x hj=>by
  have hjl:j<c.scope.length:=(Ac.1 hj).1;rw[Bn];simp only[Ad]
  rw[wW (agP c.scope t j) (.ret false) j 0 (λq h1 h2=>by
   have hq:q<c.scope.length:=xG;rw[gJ hq,bnd_s,gJ (xG:q<t.length),gJ (xG:j<t.length)]
   unfold agP
   rw[xQl hj];generalize c.scope.getD q 0=u;generalize t.getD q 0=v;generalize t.getD j 0=z;simp only[bnd_s]
   by_cases h3:u=x
   ·by_cases h4:v=z
    ·simp [h3,h4]
    ·simp [h3,h4,Ne.symm h4]
   ·simp [h3,Ne.symm h3])]
  cases (List.range' 0 j).any (agP c.scope t j)<;>rfl),xHl]
 unfold agB
 cases (List.range' 0 c.scope.length).any λk=>(List.range' 0 k).any (agP c.scope t k)<;>rfl
theorem xQz (c:Con) (t:List Int) (h:t.length=c.scope.length):iN c t=some (agB c.scope t):=by
 unfold iN
 rw[cR (λk _=>if (List.range' 0 k).any (agP c.scope t k) then some false else none) (λj x hj=>by
  have hjl:j<t.length:=(Ac.1 hj).1;rw[Bn];simp only[Ad]
  rw[wW (agP c.scope t j) (.ret false) j 0 (λq h1 h2=>by
   have hq:q<c.scope.length:=xG;rw[gJ (xG:j<c.scope.length),bnd_s,gJ hq,bnd_s,gJ (xG:q<t.length)]
   unfold agP
   rw[xQl hj];generalize c.scope.getD q 0=u;generalize c.scope.getD j 0=z;generalize t.getD q 0=v;simp only[bnd_s]
   by_cases h3:z=u
   ·by_cases h4:x=v
    ·simp [h3,h4]
    ·simp [h3,h4]
   ·simp [h3])]
  cases (List.range' 0 j).any (agP c.scope t j)<;>rfl),xHl,h]
 unfold agB
 cases (List.range' 0 c.scope.length).any λk=>(List.range' 0 k).any (agP c.scope t k)<;>rfl
def xIg (dom:List (List Int)):List Int->List Int->Bool | v::sc,a::t=>(dom.getD v.toNat []).any (· == a) && xIg dom sc t | _,_=>true
def xNr (c:Con) (dom:List (List Int)) (p:Nat) (a:Int) (t:List Int):Bool:=(t.getD p 0==a) && (agB c.scope t && xIg dom c.scope t)
theorem sV (l:List (List Int)) (p:List Int->Bool) (f:List Int->Option Bool) (hf:∀ x∈l,f x=some (p x)):oY l f=some (l.any p):=by
 obtain⟨i,h1,h2⟩:=uJ l p f hf;have h3:bF l f=some i:=h1
 unfold oY
 rw[h3,bnd_s,h2]
theorem ixD {dom:List (List Int)} {v:Int} (h0:0<=v) (h1:v<dom.length):ix dom v=some (dom.getD v.toNat []):=by
 refine iU h0 ?_;rw[Ap,Aa xG]
 rfl
theorem xKb (dom:List (List Int)) (t:List Int) (bd:Nat->Int->Unit->Option (Ctl Unit Bool)) (hb:∀ k v,bd k v ()=(xH (ix dom v) λz1=>xH (ix t (k:Int)) λz2=>xH (zA z1 z2) λz3=>if (!z3) then some (.ret false) else some (.go ()))):∀ (sc u:List Int) (k:Nat),t.drop k=u->u.length=sc.length->(∀ v∈sc,0<=v/\v<dom.length)->
 oM bd sc k ()=some (if xIg dom sc u then .nx () else .ret false)
 | [],_,_,_,_,_=>rfl
 | v::sc,[],k,_,h,_=>by simp at h
 | v::sc,a::u,k,hd,hl,hs=>by
  have hv:=hs v vK;have qc:t[k]?=some a:=(xCr hd).2.1;have qa:=hb k v;rw[ixD hv.1 hv.2,bnd_s,vD qc,bnd_s,xCh,bnd_s] at qa
  unfold xIg
  cases hh:(dom.getD v.toNat []).any (· == a) with
  | false=>rw[hh] at qa;rw[fE qa];rfl
  | true=>
   rw[hh] at qa;rw[vS (s':=()) qa,xKb dom t bd hb sc u (k+1) (xCr hd).2.2 (vV hl) (λw hw=>hs w (by simp [hw]))]
   rfl
theorem xXp (c:Con) (dom:List (List Int)) (p:Nat) (a:Int) (t:List Int) (h:t.length=c.scope.length) (hp:p<c.scope.length) (hs:∀ v∈c.scope,0<=v/\v<dom.length):iS t (p:Int) a (Con.mk c.rel c.scope) dom=some (xNr c dom p a t):=by
 unfold iS xNr
 rw[gJ xG,bnd_s,show(Con.mk c.rel c.scope)=c from rfl,xOq c t h,bnd_s,xKb dom t _ (λk v=>rfl) c.scope t 0 rfl h hs];generalize t.getD p 0=y;generalize xIg dom c.scope t=z;generalize agB c.scope t=u
 by_cases h1:y=a
 ·cases u<;>cases z<;>simp [h1]
 ·simp [h1]
theorem xNu {ρ:Type} (dom:List (List Int)) (c:Con) (t:List Int) (ht:t.length<=1048576):∀ (N:Nat) (sc u:List Int) (k:Nat),u.length<N->t.drop k=u->c.scope.drop k=sc->u.length=sc.length->k<=t.length->(∀ v∈sc,0<=v/\v<dom.length)->
 ∃ q,lF (σ:=Bool×Int) (ρ:=ρ) (λs =>match s with | (s1,s2)=>qD (σ:=Bool) (if (decide (s2<(t.length:Int))) then some (.nx s1) else some (.nx false)) λs3=>if s3 then xH (ix c.scope s2) λz1=>xH (ix dom z1) λz2=>xH (ix t s2) λz3=>xH (dR z2 z3) λz4=>xH (ck (s2+1)) λz5=>some (.go (z4,z5)) else some (.brk (s1,s2))) N (true,(k:Int))=some (.nx (xIg dom sc u,q))
 | 0,_,_,_,h,_,_,_,_,_=>xG
 | N+1,[],u,k,hN,hu,qc,hl,hk,_=>by
  have qd:u=[]:=Cc.1 hl
  have:t.length<=k:=by rw[qd] at hu;exact List.drop_eq_nil_iff.1 hu
  refine⟨(k:Int),bU ?_⟩
  have hd:decide ((k:Int)<(t.length:Int))=false:=by simp;omega
  rw[qd];simp only[hd,Ah,if_false,thn_nx]
  rfl
 | N+1,v::sc,[],_,_,_,_,h,_,_=>by simp at h
 | N+1,v::sc,a::u,k,hN,hu,qc,hl,hk,hs=>by
  have hv:=hs v vK;have qa:=xCr hu;have qe:=xCr qc
  have hd:decide ((k:Int)<(t.length:Int))=true:=by simp;exact qa.1
  have qf:ck ((k:Int)+1)=some (((k+1:Nat)):Int):=zO xG xG
  have hb:∀ b:Bool,b=(dom.getD v.toNat []).any (· == a)->∃ q,lF (σ:=Bool×Int) (ρ:=ρ) (λs =>match s with | (s1,s2)=>qD (σ:=Bool) (if (decide (s2<(t.length:Int))) then some (.nx s1) else some (.nx false)) λs3=>if s3 then xH (ix c.scope s2) λz1=>xH (ix dom z1) λz2=>xH (ix t s2) λz3=>xH (dR z2 z3) λz4=>xH (ck (s2+1)) λz5=>some (.go (z4,z5)) else some (.brk (s1,s2))) N (b,((k+1:Nat):Int))=some (.nx (xIg dom (v::sc) (a::u),q)):=by
   intro b qg
   unfold xIg
   rw[<- qg]
   cases b with
   | true=>
    obtain⟨q,hq⟩:=xNu (ρ:=ρ) dom c t ht N sc u (k+1) (by simp at hN;omega) qa.2.2 qe.2.2 (vV hl) xG (λw hw=>hs w (by simp [hw]));exact⟨q,by rw[hq];rfl⟩
   | false=>
    cases N with
    | zero=>simp at hN
    | succ N=>
     refine⟨((k+1:Nat):Int),bU ?_⟩
     by_cases h9:decide ((((k+1:Nat):Int))<(t.length:Int))=true
     ·simp only[h9,if_true,thn_nx];rfl
     ·have qh:decide ((((k+1:Nat):Int))<(t.length:Int))=false:=vV h9
      simp only[qh,thn_nx];rfl
  obtain⟨q,hq⟩:=hb _ rfl;refine⟨q,?_⟩
  rw[eF (s':=((dom.getD v.toNat []).any (· == a),((k+1:Nat):Int))) (by
   simp only[hd,if_true,thn_nx,vD qe.2.1,vD qa.2.1,ixD hv.1 hv.2,xHf,qf,bnd_s]),hq]
theorem xXv {ρ:Type} (c:Con) (dom:List (List Int)) (p:Nat) (a:Int) (t:List Int) (h:t.length=c.scope.length) (hp:p<c.scope.length) (hs:∀ v∈c.scope,0<=v/\v<dom.length) (hN:t.length<N) (hl:t.length<=1048576) (b:Bool) (hb:b=((t.getD p 0==a) && agB c.scope t)) :
 ∃ q,lF (σ:=Bool×Int) (ρ:=ρ) (λs =>match s with | (s1,s2)=>qD (σ:=Bool) (if (decide (s2<(t.length:Int))) then some (.nx s1) else some (.nx false)) λs3=>if s3 then xH (ix c.scope s2) λz1=>xH (ix dom z1) λz2=>xH (ix t s2) λz3=>xH (dR z2 z3) λz4=>xH (ck (s2+1)) λz5=>some (.go (z4,z5)) else some (.brk (s1,s2))) N (b,0)=some (.nx (xNr c dom p a t,q)):=by
 unfold xNr
 rw[<- Bool.and_assoc,<- hb]
 cases b with
 | true=>
  obtain⟨q,hq⟩:=xNu (ρ:=ρ) dom c t hl N c.scope t 0 hN rfl rfl h (Bi _) hs;exact⟨q,by rw[Dh];exact hq⟩
 | false=>
  cases N with
  | zero=>omega
  | succ N=>
   refine⟨0,bU ?_⟩
   by_cases h9:decide ((0:Int)<(t.length:Int))=true
   ·simp only[h9,if_true,thn_nx];rfl
   ·have qa:decide ((0:Int)<(t.length:Int))=false:=vV h9
    simp only[qa,thn_nx];rfl
structure ConOk (x:A6) (c:Con) (n:Nat):Prop where
  rel:∃ r,ix x.rels c.rel=some r/\∀ t∈r.tuples,t.length=c.scope.length
  sc:∀ v∈c.scope,0<=v/\v<(n:Int)
  four:c.scope.length<=4
def xRi (x:A6) (c:Con) (dom:List (List Int)) (p:Nat) (a:Int):Bool:=((ix x.rels c.rel).getD default).tuples.any (xNr c dom p a)
theorem xTj {x:A6} {c:Con} {dom:List (List Int)} {p:Nat} (a:Int) (hN:10<=N) (hc:ConOk x c dom.length) (hp:p<c.scope.length):dD x c dom (p:Int) a=some (xRi x c dom p a)/\dE N x c dom (p:Int) a=some (xRi x c dom p a):=by
 obtain⟨r,hr,hT⟩:=hc.rel;have h4:=hc.four
 have hb:xRi x c dom p a=r.tuples.any (xNr c dom p a):=by unfold xRi;rw[hr];rfl
 rw[hb];refine⟨?_,?_⟩
 ·unfold dD
  rw[hr,bnd_s,sV _ (xNr c dom p a) _ (λt ht=>xXp c dom p a t (hT t ht) hp hc.sc),bnd_s]
 ·unfold dE
  rw[hr,bnd_s,cR (λ_ t=>if xNr c dom p a t then some true else none) (λj t hj=>by
   have hl:=hT t (Af hj)
   have hw:qD (σ:=Bool) (ρ:=Ctl Unit Bool) (xH (ix t (p:Int)) λz1=>if (z1==a) then xH (iN c t) λz2=>some (.nx z2) else some (.nx false))=λk=>k ((t.getD p 0==a) && agB c.scope t):=by
    funext k
    rw[gJ xG,bnd_s,xQz c t hl,bnd_s];generalize t.getD p 0=y
    by_cases h1:y=a
    ·simp [h1]
    ·have h2:(y==a)=false:=vV h1
     simp [h2]
   simp only[hw];obtain⟨q,hq⟩:=xXv (N:=N) (ρ:=Ctl Unit Bool) c dom p a t hl hp hc.sc xG xG _ rfl;rw[hq,thn_nx]
   cases xNr c dom p a t<;>rfl),sY]
  cases r.tuples.any (xNr c dom p a)<;>rfl
end
section
variable {dom:List (List Int)} {N:Nat} {T:Nat} {B:Nat} {x:A6} {d:List Int}
theorem xKt {α σ σ' ρ ρ':Type} {f:Nat->α->σ->Option (Ctl σ ρ)} {g:Nat->α->σ'->Option (Ctl σ' ρ')} (R:Nat->σ->σ'->Prop) (Q:ρ->ρ'->Prop):∀ (l:List α) (k:Nat) (s:σ) (s':σ'),R k s s'->
 (∀ j x s s',l[j]?=some x->R (k+j) s s'->(∃ t t',f (k+j) x s=some (.go t)/\g (k+j) x s'=some (.go t')/\R (k+j+1) t t')∨(∃ r r',f (k+j) x s=some (.ret r)/\g (k+j) x s'=some (.ret r')/\Q r r'))->
 (∃ t t',oM f l k s=some (.nx t)/\oM g l k s'=some (.nx t')/\R (k+l.length) t t')∨(∃ r r',oM f l k s=some (.ret r)/\oM g l k s'=some (.ret r')/\Q r r')
 | [],_,s,s',h,_=>.inl ⟨s,s',rfl,rfl,h⟩
 | x::l,k,s,s',h,hh=>by
  rcases hh 0 x s s' rfl h with ⟨t,t',h1,h2,h3⟩ | ⟨r,r',h1,h2,h3⟩
  ·rw[Cd] at h1 h2 h3
   rw[vS h1,vS h2]
   have:=xKt R Q l (k+1) t t' h3 (λj y s s' hj hr=>by
    rw[Dn,Ep 1 j] at hr ⊢
    exact hh (j+1) y s s' hj hr)
   rw[Ao,Ep l.length 1,<- Dn];exact this
  ·rw[Cd] at h1 h2
   exact .inr ⟨r,r',fE h1,fE h2,h3⟩
theorem xVl {σ σ' ρ ρ':Type} {f:σ->Option (Ctl σ ρ)} {g:σ'->Option (Ctl σ' ρ')} (R:σ->σ'->Prop) (E:σ->σ'->Prop) (Q:ρ->ρ'->Prop) (μ:σ->Nat) (hh:∀ s s',R s s'->(∃ t t',f s=some (.go t)/\g s'=some (.go t')/\R t t'/\μ t<μ s)∨(∃ t t',f s=some (.brk t)/\g s'=some (.brk t')/\E t t')∨(∃ r r',f s=some (.ret r)/\g s'=some (.ret r')/\Q r r')):∀ (N:Nat) (s:σ) (s':σ'),μ s<N->R s s'->(∃ t t',lF f N s=some (.nx t)/\lF g N s'=some (.nx t')/\E t t')∨(∃ r r',lF f N s=some (.ret r)/\lF g N s'=some (.ret r')/\Q r r')
 | 0,_,_,h,_=>xG
 | N+1,s,s',hN,h=>by
  rcases hh s s' h with ⟨t,t',h1,h2,h3,h4⟩ | ⟨t,t',h1,h2,h3⟩ | ⟨r,r',h1,h2,h3⟩
  ·rw[eF h1,eF h2]
   exact xVl R E Q μ hh N t t' xG h3
  ·exact .inl ⟨t,t',bU h1,bU h2,h3⟩
  ·exact .inr ⟨r,r',wP h1,wP h2,h3⟩
def tot (dom:List (List Int)):Nat:=(dom.map List.length).sum
theorem xPu:∀ (dom:List (List Int)) (i:Nat) (d w:List Int),dom[i]?=some d->tot (dom.set i w)+d.length=tot dom+w.length
 | [],i,d,w,h=>by simp at h
 | x::r,0,d,w,h=>by
  simp at h;subst h
  simp [tot];omega
 | x::r,i+1,d,w,h=>by
  have:=xPu r i d w (vV h)
  simp [tot] at this ⊢
  omega
theorem xDr (h:d∈dom):d.length<=tot dom:=by
 induction dom with
 | nil=>cases h
 | cons x r ih=>
  simp only[tot,Dg,List.sum_cons]
  rcases Av.1 h with rfl | h
  ·omega
  ·have:=ih h;unfold tot at this;omega
structure DomOk (n T:Nat) (dom:List (List Int)):Prop where
  len:dom.length=n
  nd:∀ d∈dom,d.Nodup
  le:tot dom<=T
theorem xSz {l:List Int} {a:Int} (h:a∈l):(l.filter (· != a)).length<l.length:=by
 induction l with
 | nil=>cases h
 | cons x r ih=>
  rw[Dz]
  by_cases hx:x=a
  ·subst hx
   have:=Ez (· != x) r
   simp;omega
  ·have qa:(x != a)=true:=by simp [hx]
   rw[if_pos qa]
   rcases Av.1 h with h | h
   ·exact absurd h.symm hx
   ·have:=ih h;simp;omega
theorem oDv {i:Nat} {w:List Int} (h:d∈dom.set i w):d∈dom∨d=w:=Dd h
theorem DomOk.set {n:Nat} (h:DomOk n T dom) {i:Nat} {w:List Int} (hd:dom[i]?=some d) (hw:w.Nodup) (hl:w.length<=d.length):DomOk n T (dom.set i w):=by
 refine⟨by simp [h.len],λe he=>(oDv he).elim (h.nd e) (λe'=>e' ▸ hw),?_⟩;have:=xPu dom i d w hd;have:=h.le
 omega
structure PInv (K:List (List Int)->Prop) (n B T:Nat) (D:List (List Int)->Prop) (dom:List (List Int)) (out:List B1) (ch:Bool):Prop where
  ok:DomOk n T dom
  sum:out.length+tot dom<=T
  ge:B<=out.length
  yes:ch=true->B<out.length
  no:ch=false->out.length=B
  k:K dom
  con:ch=false->D dom
theorem PInv.mono {K D D':List (List Int)->Prop} {n:Nat} {out:List B1} {ch:Bool} (h:PInv K n B T D dom out ch) (hd:D dom->D' dom):PInv K n B T D' dom out ch:=⟨h.ok,h.sum,h.ge,h.yes,h.no,h.k,λe=>hd (h.con e)⟩
def xZo (K:List (List Int)->Prop) (x:A6) (c:Con) (p:Nat) (v:Int):Prop:=∀ dom a,K dom->xRi x c dom p a=false->K (dom.set v.toNat ((dom.getD v.toNat []).filter (· != a)))
theorem oAk {K D:List (List Int)->Prop} {c:Con} {n kc p:Nat} {v a:Int} {out:List B1} {ch:Bool} (hN:10<=N) (hNT:T<N) (hT:T<=1048576) (hc:ConOk x c n) (hp:p<c.scope.length) (hv:0<=v/\v<(n:Int)) (hK:xZo K x c p v) (I:PInv K n B T D dom out ch) (ha:a∈dom.getD v.toNat []) :
 ∃ b,xRi x c dom p a=b/\dD (A6.mk x.size x.rels) (Con.mk c.rel c.scope) dom (p:Int) a=some b/\dE N x c dom (p:Int) a=some b/\(b=false->∃ d w out',ix dom v=some d/\dom[v.toNat]?=some d/\w=d.filter (· != a)/\gP N d a=some w/\dH d a=some w/\out'=out++[B1.mk v a (kc:Int)]/\ap out [B1.mk v a (kc:Int)]=some out'/\∀ D',PInv K n B T D' (dom.set v.toNat w) out' true):=by
 have hl:=I.ok.len;obtain⟨h1,h2⟩:=xTj (N:=N) (dom:=dom) a hN (hl.symm ▸ hc) hp;refine⟨_,rfl,h1,h2,λhb=>?_⟩;have hk:=hK dom a I.k hb;have qe:v.toNat<dom.length:=xG
 have qa:dom[v.toNat]?=some (dom.getD v.toNat []):=by rw[Ap,Aa qe];rfl
 obtain⟨d,hd⟩:∃ d,d=dom.getD v.toNat []:=⟨_,rfl⟩;rw[<- hd] at ha qa hk;have qd:d∈dom:=Af qa;have hdl:=xDr qd;have hle:=I.ok.le;have hsum:=I.sum;have hless:=xSz ha;have hset:=xPu dom v.toNat d (d.filter (· != a)) qa;have qf:DomOk n T (dom.set v.toNat (d.filter (· != a))):=I.ok.set qa ((I.ok.nd d qd).filter _) xG
 have qc:(out++[B1.mk v a (kc:Int)]).length+tot (dom.set v.toNat (d.filter (· != a)))<=T:=by
  rw[Ar,Am];omega
 have hB:B<(out++[B1.mk v a (kc:Int)]).length:=by rw[Ar,Am];have:=I.ge;omega
 exact⟨d,_,_,by rw[ixD hv.1 xG,<- hd],qa,rfl,xUh d a xG xG,xNm d a xG,rfl,aC (by simp only[Ao,Bh];omega),λD'=>⟨qf,qc,xG,λ_=>hB,(λh=>nomatch h),hk,λh=>nomatch h⟩⟩
def Sup (x:A6) (c:Con) (p:Nat) (v:Int) (dom:List (List Int)):Prop:=∀ a∈dom.getD v.toNat [],xRi x c dom p a=true
theorem xTt {K D:List (List Int)->Prop} {c:Con} {n kc p:Nat} {v:Int} {ρ ρ':Type} (hN:10<=N) (qf:T<N) (hT:T<=1048576) (hc:ConOk x c n) (hp:p<c.scope.length) (hv:0<=v/\v<(n:Int)) (hK:xZo K x c p v)
 {f:Nat->Int->List B1×Bool×List (List Int)->Option (Ctl (List B1×Bool×List (List Int)) ρ)} {g:Nat->Int->List B1×List (List Int)->Option (Ctl (List B1×List (List Int)) ρ')} (F:List B1×List (List Int)->ρ) (G:List B1×List (List Int)->ρ')
 (hf:∀ k a out ch dom,f k a (out,ch,dom)=xH (dD (A6.mk x.size x.rels) (Con.mk c.rel c.scope) dom (p:Int) a) λz=>if z then some (.go (out,ch,dom)) else xH (ix dom v) λz1=>xH (gP N z1 a) λz2=>xH (ap out [B1.mk v a (kc:Int)]) λz3=>xH (jV) λz4=>if z4 then some (.ret (F (z3,dom.set v.toNat z2))) else some (.go (z3,true,dom.set v.toNat z2)))
 (hg:∀ k a out dom,g k a (out,dom)=xH (dE N x c dom (p:Int) a) λz=>if (!z) then xH (ix dom v) λz1=>xH (dH z1 a) λz2=>xH (ap out [B1.mk v a (kc:Int)]) λz3=>qD (σ:=Bool) (if false then xH (ix (dom.set v.toNat z2) v) λz4=>some (.nx ((z4.length:Int)==0)) else some (.nx false)) λs=>if s then some (.ret (G (z3,dom.set v.toNat z2))) else some (.go (z3,dom.set v.toNat z2)) else some (.go (out,dom)))
 (dom:List (List Int)) (out:List B1) (ch:Bool) (I:PInv K n B T D dom out ch) :
 ∃ out' ch' dom',oM f (dom.getD v.toNat []) 0 (out,ch,dom)=some (.nx (out',ch',dom'))/\oM g (dom.getD v.toNat []) 0 (out,dom)=some (.nx (out',dom'))/\PInv K n B T (λd=>D d/\Sup x c p v d) dom' out' ch':=by
 obtain⟨left,qa⟩:∃ l,l=dom.getD v.toNat []:=⟨_,rfl⟩
 have qg:left.Nodup:=by
  rw[qa]
  have qc:v.toNat<dom.length:=by have:=I.ok.len;omega
  rw[Ap,Aa qc];exact I.ok.nd _ (Bs qc)
 rw[<- qa]
 rcases xKt (f:=f) (g:=g) (λk s s'=>s'=(s.1,s.2.2)/\PInv K n B T (λd=>D d/\d.getD v.toNat []=left/\∀ a∈left.take k,xRi x c d p a=true) s.2.2 s.1 s.2.1/\∀ a∈left.drop k,a∈s.2.2.getD v.toNat []) (λr r'=>False) left 0 (out,ch,dom) (out,dom) ⟨rfl,I.mono (λh=>⟨h,qa.symm,λa ha=>by simp at ha⟩),λa ha=>by rw[<- qa];simpa using ha⟩ (λj a s s' hj hR=>by
  obtain⟨qh,I',qd⟩:=hR;obtain⟨o,c',dm⟩:=s;subst qh;rw[Bn] at qd ⊢;have hd:=oFo hj
  have qi:a∈left.drop j:=by rw[hd];simp
  obtain⟨b,h0,h1,h2,h3⟩:=oAk (kc:=kc) hN qf hT hc hp hv hK I' (qd a qi)
  cases b with
  | true=>
   refine .inl ⟨(o,c',dm),(o,dm),by rw[hf,h1,bnd_s,if_pos rfl],by rw[hg,h2,bnd_s];rfl,rfl,I'.mono (λh=>⟨h.1,h.2.1,λe he=>?_⟩),λe he=>qd e ?_⟩
   ·rw[List.take_add_one,hj] at he
    rcases Aj.1 he with he | he
    ·exact h.2.2 e (by rw[Bn];exact he)
    ·simp only[Option.toList,Ay] at he
     rw[he];exact h0
   ·rw[hd];simp [he]
  | false=>
   obtain⟨d,w,o',q1,q2,q3,q4,q5,q6,q7,q13⟩:=h3 rfl
   have ef:f j a (o,c',dm)=some (.go (o',true,dm.set v.toNat w)):=by
    rw[hf,h1,bnd_s,if_neg vK,q1,bnd_s,q4,bnd_s,q7,bnd_s];rfl
   have eg:g j a (o,dm)=some (.go (o',dm.set v.toNat w)):=by
    rw[hg,h2,bnd_s];simp only[Co,if_true,q1,q5,q7,bnd_s,thn_nx,Ah,if_false]
   refine .inl ⟨_,_,ef,eg,rfl,q13 _,λe he=>?_⟩
   have qc:v.toNat<dm.length:=by have:dm.length=n:=I'.ok.len;omega
   show e∈(dm.set v.toNat w).getD v.toNat []
   rw[Ap,Ai qc,Ej,q3,Df]
   have qe:(a::left.drop (j+1)).Nodup:=by rw[<- hd];exact qg.sublist (List.drop_sublist _ _)
   have qj:e≠a:=λh=>(List.nodup_cons.1 qe).1 (h ▸ he);have h7:=qd e (by rw[hd];simp [he]);rw[Ap,q2,Ej] at h7
   exact⟨h7,vV qj⟩) with ⟨t,t',h1,h2,h3,h4,_⟩ | ⟨r,r',h1,h2,h3⟩
 ·obtain⟨o,c',dm⟩:=t
  exact⟨o,c',dm,h1,by rw[h2,h3],h4.mono (λh=>⟨h.1,λa ha=>by rw[h.2.1] at ha;exact h.2.2 a (by rw[Bn,List.take_length];exact ha)⟩)⟩
 ·exact h3.elim
def bY {α β:Type} (a:Option α) (b:Option β) (P:α->β->Prop):Prop:=∃ x y,a=some x/\b=some y/\P x y
def xWu {σ σ' ρ ρ':Type} (R:σ->σ'->Prop) (Q:ρ->ρ'->Prop):Out σ ρ->Out σ' ρ'->Prop | .nx s,.nx s'=>R s s' | .ret r,.ret r'=>Q r r' | _,_=>False
def oIv {σ σ' ρ ρ':Type} (R E:σ->σ'->Prop) (Q:ρ->ρ'->Prop):Ctl σ ρ->Ctl σ' ρ'->Prop | .go s,.go s'=>R s s' | .brk s,.brk s'=>E s s' | .ret r,.ret r'=>Q r r' | _,_=>False
section
variable {α β γ δ σ σ' ρ ρ':Type} {P:γ->δ->Prop}
theorem bY.s {a:γ} {b:δ} (h:P a b):bY (some a) (some b) P:=⟨a,b,rfl,rfl,h⟩
theorem bY.mono {P':γ->δ->Prop} {a:Option γ} {b:Option δ} (h:bY a b P) (k:∀ x y,P x y->P' x y):bY a b P':=let ⟨x,y,h1,h2,h3⟩:=h;⟨x,y,h1,h2,k x y h3⟩
theorem bY.l {o:Option α} {k:α->Option γ} {b:Option δ} {a:α} (h:o=some a) (hk:bY (k a) b P):bY (Go.Proofs.YtomlfdagbmgmgaaGreat.xH o k) b P:=by rw[h];exact hk
theorem bY.r {o:Option α} {k:α->Option δ} {b:Option γ} {a:α} (h:o=some a) (hk:bY b (k a) P):bY b (Go.Proofs.YtomlfdagbmgmgaaGreat.xH o k) P:=by rw[h];exact hk
theorem bY.thn (R:σ->σ'->Prop) (Q:γ->δ->Prop) {o:Option (Out σ γ)} {o':Option (Out σ' δ)} {k:σ->Option γ} {k':σ'->Option δ} (h:bY o o' (xWu R Q)) (hk:∀ a b,R a b->bY (k a) (k' b) P) (hq:∀ a b,Q a b->P a b):bY (qD o k) (qD o' k') P:=by
 obtain⟨a,b,rfl,rfl,h⟩:=h
 cases a<;>cases b<;>first | exact hk _ _ h | exact bY.s (hq _ _ h) | exact h.elim
theorem bY.forL (R:Nat->σ->σ'->Prop) (Q:ρ->ρ'->Prop) {f:Nat->α->σ->Option (Ctl σ ρ)} {g:Nat->α->σ'->Option (Ctl σ' ρ')} {l:List α} {k:Nat} {s:σ} {s':σ'} (h:R k s s') (hh:∀ j x s s',l[j]?=some x->R (k+j) s s'->bY (f (k+j) x s) (g (k+j) x s') (oIv (R (k+j+1)) (λ_ _=>False) Q)):bY (oM f l k s) (oM g l k s') (xWu (R (k+l.length)) Q):=by
 rcases xKt R Q l k s s' h (λj x s s' hj hr=>by
  obtain⟨a,b,h1,h2,h3⟩:=hh j x s s' hj hr
  cases a<;>cases b<;>first | exact .inl ⟨_,_,h1,h2,h3⟩ | exact .inr ⟨_,_,h1,h2,h3⟩ | exact h3.elim) with ⟨t,t',h1,h2,h3⟩ | ⟨r,r',h1,h2,h3⟩
 ·exact⟨_,_,h1,h2,h3⟩
 ·exact⟨_,_,h1,h2,h3⟩
theorem bY.whl (R:σ->σ'->Prop) (E:σ->σ'->Prop) (Q:ρ->ρ'->Prop) (μ:σ->Nat) {f:σ->Option (Ctl σ ρ)} {g:σ'->Option (Ctl σ' ρ')} {s:σ} {s':σ'} (hN:μ s<N) (h:R s s') (hh:∀ s s',R s s'->bY (f s) (g s') (oIv (λt t'=>R t t'/\μ t<μ s) E Q)):bY (lF f N s) (lF g N s') (xWu E Q):=by
 rcases xVl R E Q μ (λs s' hr=>by
  obtain⟨a,b,h1,h2,h3⟩:=hh s s' hr
  cases a<;>cases b<;>first | exact .inl ⟨_,_,h1,h2,h3.1,h3.2⟩ | exact .inr (.inl ⟨_,_,h1,h2,h3⟩) | exact .inr (.inr ⟨_,_,h1,h2,h3⟩) | exact h3.elim) N s s' hN h with ⟨t,t',h1,h2,h3⟩ | ⟨r,r',h1,h2,h3⟩
 ·exact⟨_,_,h1,h2,h3⟩
 ·exact⟨_,_,h1,h2,h3⟩
end
theorem oEd {K D:List (List Int)->Prop} {c:Con} {n kc p:Nat} {v:Int} {ρ ρ':Type} (hN:10<=N) (qa:T<N) (hT:T<=1048576) (hc:ConOk x c n) (hp:p<c.scope.length) (hv:0<=v/\v<(n:Int)) (hK:xZo K x c p v) {f:Nat->Int->List B1×Bool×List (List Int)->Option (Ctl (List B1×Bool×List (List Int)) ρ)} {g:Nat->Int->List B1×List (List Int)->Option (Ctl (List B1×List (List Int)) ρ')} (F:List B1×List (List Int)->ρ) (G:List B1×List (List Int)->ρ') (hf:∀ k a out ch dom,f k a (out,ch,dom)=xH (dD (A6.mk x.size x.rels) (Con.mk c.rel c.scope) dom (p:Int) a) λz=>if z then some (.go (out,ch,dom)) else xH (ix dom v) λz1=>xH (gP N z1 a) λz2=>xH (ap out [B1.mk v a (kc:Int)]) λz3=>xH (jV) λz4=>if z4 then some (.ret (F (z3,dom.set v.toNat z2))) else some (.go (z3,true,dom.set v.toNat z2))) (hg:∀ k a out dom,g k a (out,dom)=xH (dE N x c dom (p:Int) a) λz=>if (!z) then xH (ix dom v) λz1=>xH (dH z1 a) λz2=>xH (ap out [B1.mk v a (kc:Int)]) λz3=>qD (σ:=Bool) (if false then xH (ix (dom.set v.toNat z2) v) λz4=>some (.nx ((z4.length:Int)==0)) else some (.nx false)) λs=>if s then some (.ret (G (z3,dom.set v.toNat z2))) else some (.go (z3,dom.set v.toNat z2)) else some (.go (out,dom))) (dom:List (List Int)) (out:List B1) (ch:Bool) (I:PInv K n B T D dom out ch):bY (oM f (dom.getD v.toNat []) 0 (out,ch,dom)) (oM g (dom.getD v.toNat []) 0 (out,dom)) (xWu (λs s'=>s'=(s.1,s.2.2)/\PInv K n B T (λd=>D d/\Sup x c p v d) s.2.2 s.1 s.2.1) (λ_ _=>False)):=by
 obtain⟨o3,c3,d3,h1,h2,h3⟩:=xTt hN qa hT hc hp hv hK F G hf hg dom out ch I;exact⟨_,_,h1,h2,rfl,h3⟩
theorem xZl {ρ:Type} (dom:List (List Int)) (r:ρ) (hN:0<N) {b:Bool} (hb:b=false):lF (σ:=Int) (ρ:=ρ) (λs1 =>qD (σ:=Bool) (if (decide (s1<(dom.length:Int))) then some (.nx b) else some (.nx false)) λs2=>if s2 then xH (ix dom s1) λz1=>if ((z1.length:Int)==0) then some (.ret r) else xH (ck (s1+1)) λz2=>some (.go z2) else some (.brk s1)) N 0=some (.nx 0):=by
 subst hb;obtain⟨M,rfl⟩:∃ M,N=M+1:=⟨N - 1,xG⟩;refine bU ?_
 by_cases h:(decide ((0:Int)<(dom.length:Int)))=true
 ·simp only[h,if_true,thn_nx,Ah,if_false]
 ·have h':(decide ((0:Int)<(dom.length:Int)))=false:=vV h
  simp only[h',thn_nx,Ah,if_false]
def xPl (x:A6) (y:A7) (k:Nat) (dom:List (List Int)):Prop:=∀ c∈y.cons.take k,∀ p v,c.scope[p]?=some v->Sup x c p v dom
theorem oBk {K:List (List Int)->Prop} {y:A7} {n:Nat} (hK:∀ c∈y.cons,∀ p v,c.scope[p]?=some v->xZo K x c p v) (qm:K dom) (hN:10<=N) (hy:∀ c∈y.cons,ConOk x c n) (qd:DomOk n (tot dom) dom) (hT:tot dom<=1000) (qn:tot dom+1<N) (hn:n<=1000) (hNn:n<N) :
 bY (fN N x y dom (λ_=>jV)) (fK N x y dom false) (λr r'=>r=r'/\DomOk n (tot dom) r.2/\r.1.length+tot r.2<=tot dom/\K r.2/\xPl x y y.cons.length r.2):=by
 obtain⟨T,qg⟩:∃ T,T=tot dom:=⟨_,rfl⟩;rw[<- qg] at qd hT qn ⊢;have hlen:=qd.len
 unfold fN fK
 rw[xZl dom _ xG rfl,thn_nx];refine bY.thn (λt t'=>t'.1=t.1/\t'.2.2=t.2.2/\DomOk n T t.2.2/\t.1.length+tot t.2.2<=T/\K t.2.2/\xPl x y y.cons.length t.2.2) (λr r'=>False) (bY.whl (λs s'=>∃ bf:Int,s'=(s.1,bf,s.2.2)/\(s.2.1=true↔bf≠(s.1.length:Int))/\DomOk n T s.2.2/\s.1.length+tot s.2.2<=T/\K s.2.2/\(s.2.1=false->xPl x y y.cons.length s.2.2)) _ _ (λs=>tot s.2.2+(if s.2.1 then 1 else 0)) ?_ ⟨-1,rfl,⟨λ_=>vK,λ_=>rfl⟩,qd,by simp [qg],qm,λh=>nomatch h⟩ (λs s' hR=>?_)) (λt t' h=>?_) (λr r' h=>h.elim)
 ·simp only[if_true];omega
 ·obtain⟨out,ch,dm⟩:=s
  obtain⟨bf,rfl,hb,ok,hs,hk,qh⟩:=hR;simp only at hb ok hs hk qh ⊢
  cases ch with
  | false=>
   have qo:bf=(out.length:Int):=by
    by_cases h:bf=(out.length:Int)
    ·exact h
    ·exact absurd (hb.2 h) vK
   rw[if_neg vK,if_neg (by simp [qo])];exact bY.s ⟨rfl,rfl,ok,hs,hk,qh rfl⟩
  | true=>
   have I0:PInv K n out.length (out.length+tot dm) (xPl x y 0) dm out false:=⟨⟨ok.len,ok.nd,xG⟩,Az _,Az _,(λh=>nomatch h),(λ_=>rfl),hk,λ_ c hc=>by simp at hc⟩;have qi:out.length+tot dm<=T:=hs;obtain⟨T2,qe⟩:∃ T2,T2=out.length+tot dm:=⟨_,rfl⟩;rw[<- qe] at I0 qi;rw[if_pos rfl,if_pos (by simpa using hb.1 rfl)];refine bY.thn (λs s'=>s'=(s.1,s.2.2)/\PInv K n out.length T2 (xPl x y y.cons.length) s.2.2 s.1 s.2.1) (λr r'=>False) (bY.mono (bY.forL (λk s s'=>s'=(s.1,s.2.2)/\PInv K n out.length T2 (xPl x y k) s.2.2 s.1 s.2.1) (λr r'=>False) ⟨rfl,I0⟩ (λj c s s' hj hR=>?_)) (λa b h=>by rw[Bn] at h;exact h)) (λa b h=>?_) (λr r' h=>h.elim)
   ·obtain⟨o1,c1,d1⟩:=s
    obtain⟨rfl,I1⟩:=hR;have qj:=Af hj;have hc:=hy c qj;rw[Bn] at I1 ⊢;refine bY.thn (λs s'=>s'=(s.1,s.2.2)/\PInv K n out.length T2 (xPl x y (j+1)) s.2.2 s.1 s.2.1) (λr r'=>False) (bY.mono (bY.forL (λk s s'=>s'=(s.1,s.2.2)/\PInv K n out.length T2 (λd=>xPl x y j d/\∀ p v,p<k->c.scope[p]?=some v->Sup x c p v d) s.2.2 s.1 s.2.1) (λr r'=>False) ⟨rfl,I1.mono (λh=>⟨h,λp v hp=>xG⟩)⟩ (λp v s s' hp hR=>?_)) (λa b h=>?_)) (λa b h=>?_) (λr r' h=>h.elim)
    ·obtain⟨o2,c2,d2⟩:=s
     obtain⟨rfl,I2⟩:=hR;simp only at I2 ⊢;have qp:p<c.scope.length:=(Ac.1 hp).1;have hv:=hc.sc v (Af hp);have hl2:=I2.ok.len;have qk:v.toNat<d2.length:=xG
     have ql:(d2.getD v.toNat []).length<=1048576:=by
      have h9:d2.getD v.toNat []∈d2:=by rw[Ap,Aa qk];exact Bs qk
      have:=xDr h9;have:=I2.ok.le
      omega
     refine bY.l (ixD hv.1 xG) (bY.r (ixD hv.1 xG) (bY.l (xSg _ ql) (bY.r (own_eq _ ql) ?_)));rw[Bn] at I2 ⊢;refine bY.thn (λs s'=>s'=(s.1,s.2.2)/\PInv K n out.length T2 (λd=>(xPl x y j d/\∀ p' v,p'<p->c.scope[p']?=some v->Sup x c p' v d)/\Sup x c p v d) s.2.2 s.1 s.2.1) (λr r'=>False) ?_ (λa b h=>?_) (λr r' h=>h.elim)
     ·refine bY.mono (oEd (kc:=j) (B:=out.length) hN (show T2<N by omega) xG hc qp hv (hK c qj p v hp) (λq=>Ctl.ret (Ctl.ret (Ctl.ret q))) (λq=>Ctl.ret (Ctl.ret (Ctl.ret q))) ?_ ?_ d2 o2 c2 I2) (λa b h=>h)
      ·intro _ _ _ _ _;rfl
      ·intro _ _ _ _;rfl
     ·obtain⟨o3,c3,d3⟩:=a
      obtain⟨rfl,h⟩:=h;refine bY.s ⟨rfl,h.mono (λh=>⟨h.1.1,λp' v' hp' qf=>?_⟩)⟩
      by_cases e:p'=p
      ·subst e
       rw[hp] at qf
       cases qf
       exact h.2
      ·exact h.1.2 p' v' xG qf
    ·cases a<;>cases b<;>first | exact⟨h.1,h.2.mono (λh c' qa=>by
      rw[List.take_add_one,hj] at qa
      rcases Aj.1 qa with qa | qa
      ·exact h.1 c' qa
      ·simp only[Option.toList,Ay] at qa
       subst qa
       exact λp v hp=>h.2 p v (by rw[Bn];exact(Ac.1 hp).1) hp)⟩ | exact h
    ·obtain⟨o3,c3,d3⟩:=a
     obtain⟨rfl,h⟩:=h;exact bY.s ⟨rfl,h⟩
   ·obtain⟨o3,c3,d3⟩:=a
    obtain⟨rfl,h⟩:=h;have h6:=h.sum;have h7:=h.ge;simp only at h h6 h7 ⊢;refine bY.s ⟨⟨(out.length:Int),rfl,?_,⟨h.ok.len,h.ok.nd,Cb h.ok.le qi⟩,(show o3.length+tot d3<=T by omega),h.k,h.con⟩,?_⟩
    ·constructor
     ·intro hc;have:=h.yes hc;show(out.length:Int)≠(o3.length:Int);omega
     ·intro hc
      change (out.length:Int)≠(o3.length:Int) at hc
      cases qc:c3 with
      | true=>rfl
      | false=>have:=h.no qc;exact absurd xG hc
    ·cases qc:c3 with
     | true=>have:=h.yes qc;simp only[if_true];omega
     | false=>have:=h.no qc;simp only[Ah,if_false,if_true];omega
 ·obtain⟨h1,h2,h3,h4,h5⟩:=h
  obtain⟨o,c,d⟩:=t;obtain⟨o',c',d'⟩:=t';simp only at h1 h2 h3 h4 h5 ⊢;subst h1 h2;exact bY.s ⟨rfl,h3,h4,h5⟩
end
section
theorem eV (a lo hi:Int):bI a lo hi=some (decide (lo<=a) && decide (a<=hi)):=by
 unfold bI
 by_cases h:lo<=a
 ·simp [h]
 ·simp [h]
theorem dN (a lo hi:Int):kR a lo hi=some (decide (lo<=a) && decide (a<=hi)):=eV a lo hi
def okS (s:Int):Bool:=decide (1<=s) && decide (s<=4)
def okV (s a:Int):Bool:=decide (0<=a) && decide (a<=s - 1)
def xAh (s:Int) (t:List Int) (ar:Int):Bool:=((t.length:Int)==ar) && t.all (okV s)
theorem xQu {s:Int} (h:okS s=true):1<=s/\s<=4:=by simpa [okS] using h
theorem xHd (s:Int):nG s=some (okS s):=by unfold nG;rw[eV];rfl
theorem xUb (s:Int):tA s=some (okS s):=by unfold tA;rw[eV];rfl
theorem xEe (s:Int):dO s=some (okS s):=by unfold dO;rw[dN];rfl
theorem xSw (s:Int):rG s=some (okS s):=by unfold rG;rw[dN];rfl
theorem ckS {s:Int} (h:okS s=true):ck (s - 1)=some (s - 1):=by have:=xQu h;exact zO xG xG
theorem xKv {s:Int} (h:okS s=true) (a:Int):fD s a=some (okV s a):=by
 unfold fD
 rw[ckS h,bnd_s,eV]
 rfl
theorem xRn {s:Int} (h:okS s=true) (ar:Int) (t:List Int):mI s ar t=some (xAh s t ar):=by
 unfold mI
 rw[cR (λ_ x=>if !okV s x then some false else none) (λj x hj=>by
  simp only[ckS h,bnd_s,dN]
  show(if (!okV s x)=true then _ else _)=_
  by_cases hv:okV s x=true
  ·simp [hv,xAu]
  ·simp [hv,xAu])]
 rw[sY]
 unfold xAh
 by_cases ha:t.all (okV s)=true
 ·have:t.any (λx=>!okV s x)=false:=vV ha
  rw[this,ha]
  simp [xIv]
 ·have qa:t.all (okV s)=false:=vV ha
  have:t.any (λx=>!okV s x)=true:=vV qa;rw[this,qa]
  simp [xIv]
theorem xWf (l:List Int) (p:Int->Bool) (f:Int->Option Bool) (hf:∀ x,f x=some (p x)):∃ i,qK l f=some i/\decide (0<=i)=l.any p:=by
 unfold qK
 rw[cR (λk x=>if p x then some (k:Int) else none) (λj x hj=>by
  simp only[hf,bnd_s]
  by_cases hv:p x=true
  ·simp [hv,xAu]
  ·simp [hv,xAu])]
 have key:∀ (l:List Int) (k:Nat),(l.any p=true/\∃ i:Nat,fnd (λk x=>if p x then some (k:Int) else none) l k=some (i:Int))∨(l.any p=false/\fnd (λk x=>if p x then some (k:Int) else none) l k=none):=by
  intro l
  induction l with
  | nil=>intro k;exact .inr ⟨rfl,rfl⟩
  | cons x l ih=>
   intro k
   unfold fnd
   by_cases hv:p x=true
   ·exact .inl ⟨by simp [hv],k,by simp [hv]⟩
   ·have qa:p x=false:=vV hv
    rcases ih (k+1) with ⟨h1,i,h2⟩ | ⟨h1,h2⟩
    ·exact .inl ⟨by simp [h1],i,by simp [qa,h2]⟩
    ·exact .inr ⟨by simp [h1,qa],by simp [qa,h2]⟩
 rcases key l 0 with ⟨h1,i,h2⟩ | ⟨h1,h2⟩
 ·rw[h2];exact⟨i,rfl,by simp [h1]⟩
 ·rw[h2];exact⟨-1,rfl,by simp [h1]⟩
theorem sW (l:List Int) (p:Int->Bool) (f:Int->Option Bool) (hf:∀ x,f x=some (p x)):vP l f=some (l.any p):=by
 obtain⟨i,h1,h2⟩:=xWf l p f hf
 unfold vP
 rw[h1,bnd_s,h2]
theorem yZ {s:Int} (h:okS s=true) (ar:Int) (t:List Int):bA s t ar=some (xAh s t ar):=by
 unfold bA
 rw[sW t (λx=>!okV s x) _ (λx=>by unfold lL;rw[xKv h];rfl)]
 unfold xAh
 by_cases hl:((t.length:Int)==ar)=true
 ·rw[hl]
  simp
  rw[Bool.eq_iff_iff]
  simp
 ·have:((t.length:Int)==ar)=false:=vV hl
  rw[this]
  simp
def tR (a b:Int):Int:=if a<b then -1 else if b<a then 1 else 0
def cO:List Int->List Int->Int | [],[]=>0 | [],_::_=>-1 | _::_,[]=>1 | a::l,b::m=>if tR a b≠0 then tR a b else cO l m
theorem xVu (a b:Int):eX a b=some (tR a b):=by
 unfold eX mP tR
 by_cases h:a<b
 ·simp [h]
 ·by_cases h2:b<a<;>simp [h,h2]
theorem tH {a b:Int}:tR a b=0↔a=b:=by
 unfold tR
 split
 ·constructor<;>omega
 ·split<;>constructor<;>omega
theorem xLv (l m:List Int):kB l m=some (cO l m):=by
 unfold kB
 suffices H:∀ (l r:List Int) (k:Nat),m.drop k=r->k<=m.length->∀ (n:Int),n=k+l.length->
  qD (oM (σ:=Unit) (ρ:=Int) (λk1 (x1:Int) s=>match s with | _=>if (decide ((m.length:Int)<=(k1:Int))) then some (.ret 1) else xH (ix m (k1:Int)) λz1=>xH (eX x1 z1) λz2=>if (z2 != 0) then some (.ret z2) else some (.go ())) l k ()) (λ_=>if (decide (n<(m.length:Int))) then some (-1) else some 0)=some (cO l r) from H l m 0 vK xG _ vK
 intro l
 induction l with
 | nil=>
  intro r k hr hk n hn;have hl:=congrArg List.length hr;rw[Dq] at hl
  cases r with
  | nil=>
   have:¬ n<(m.length:Int):=by simp at hl hn;omega
   rw[forL_nil',thn_nx,if_neg (vV this)]
   rfl
  | cons b r=>
   have:n<(m.length:Int):=by simp at hl hn;omega
   rw[forL_nil',thn_nx,if_pos (vV this)]
   rfl
 | cons a l ih=>
  intro r k hr hk n hn;have hl:=congrArg List.length hr;rw[Dq] at hl
  cases r with
  | nil=>
   have:(m.length:Int)<=(k:Int):=by simp at hl;omega
   rw[fE (r:=1) (by simp [this])]
   rfl
  | cons b r=>
   have h1:¬ (m.length:Int)<=(k:Int):=by simp at hl;omega
   have h2:m[k]?=some b:=by rw[<- Ev,hr];rfl
   have h3:m.drop (k+1)=r:=by rw[<- Es,hr];rfl
   unfold cO
   by_cases hc:tR a b=0
   ·rw[vS (s':=()) (by simp [h1,vD h2,xVu,hc])]
    rw[show(if tR a b≠0 then tR a b else cO l r)=cO l r from if_neg (by simp [hc])];exact ih r (k+1) h3 (by simp at hl;omega) n (by rw[hn,Ao];push_cast;omega)
   ·rw[fE (r:=tR a b) (by simp [h1,vD h2,xVu,hc])]
    rw[if_pos hc]
    rfl
theorem xWw (l m:List Int) (qa:l.length=m.length):iY l m=some (decide (cO l m<0)):=by
 unfold iY
 suffices H:∀ (l r:List Int) (k:Nat),m.drop k=r->l.length=r.length->
  qD (oM (σ:=Unit) (ρ:=Bool) (λk32 (x1:Int) s=>match s with | _=>xH (ix m (k32:Int)) λz1=>if (x1 != z1) then some (.ret ((decide (x1<z1)))) else some (.go ())) l k ()) (λ_=>some false)=some (decide (cO l r<0)) from H l m 0 vK qa
 intro l
 induction l with
 | nil=>
  intro r k hr hl
  cases r with
  | nil=>rfl
  | cons b r=>simp at hl
 | cons a l ih=>
  intro r k hr hl
  cases r with
  | nil=>simp at hl
  | cons b r=>
   have h2:m[k]?=some b:=by rw[<- Ev,hr];rfl
   have h3:m.drop (k+1)=r:=by rw[<- Es,hr];rfl
   unfold cO
   by_cases hc:a=b
   ·have hj:=tH.2 hc
    rw[vS (s':=()) (by simp [vD h2,hc])];rw[show(if tR a b≠0 then tR a b else cO l r)=cO l r from if_neg (by simp [hj])];exact ih r (k+1) h3 (vV hl)
   ·have hj:tR a b≠0:=λh=>hc (tH.1 h)
    rw[fE (r:=decide (a<b)) (by simp [vD h2,hc])];rw[if_pos hj]
    unfold tR
    by_cases qc:a<b
    ·simp [qc]
    ·by_cases qd:b<a
     ·simp [qc,qd]
     ·omega
theorem xYv (s:Int) (x:Rel) (hN:x.tuples.length<=1048576):∃ b,pW s x=some b/\fM s x=some b/\(b=true->okS s=true/\okS x.arity=true/\(∀ t∈x.tuples,xAh s t x.arity=true)/\∀ j t u,x.tuples[j]?=some t->x.tuples[j+1]?=some u->cO t u<0):=by
 unfold pW fM
 simp only[xEe,xHd,xSw,xUb,bnd_s]
 by_cases hs:okS s=true
 ·by_cases ha:okS x.arity=true
  ·simp only[hs,ha,Br,Ah,if_false,thn_nx]
   obtain⟨q,h1,h2,h3,h4⟩:=xSy (ρ:=Bool) (l:=x.tuples) (k:=0) (λi=>(∀ j t,j<i->x.tuples[j]?=some t->xAh s t x.arity=true)/\∀ j t u,j+1<i->x.tuples[j]?=some t->x.tuples[j+1]?=some u->cO t u<0) (λr=>r=false)
    (f:=λ(k1:Nat) (x1:(List Int)) (s_1:Unit)=>qD (σ:=Bool) (xH (mI s x.arity x1) λz1=>if (!z1) then some (.nx true) else if (decide (0<(k1:Int))) then xH (ck ((k1:Int) - 1)) λz2=>xH (ix x.tuples z2) λz3=>xH (iY z3 x1) λz4=>some (.nx (!z4)) else some (.nx false)) λs1=>if s1 then some (.ret false) else some (.go ()))
    (g:=λ(k2:Nat) (x2:(List Int)) (s_1:Unit)=>qD (σ:=Bool) (xH (bA s x2 x.arity) λz5=>if (!z5) then some (.nx true) else if (decide (0<(k2:Int))) then xH (ck ((k2:Int) - 1)) λz6=>xH (ix x.tuples z6) λz7=>xH (kB z7 x2) λz8=>some (.nx (decide (0<=z8))) else some (.nx false)) λs2=>if s2 then some (.ret false) else some (.go ()))
    ⟨λj t hj=>xG,λj t u hj=>xG⟩
    (λj t hj qg=>by
     rw[Bn] at qg ⊢;obtain⟨hi,qi⟩:=qg;simp only[xRn hs,yZ hs,bnd_s]
     by_cases hv:xAh s t x.arity=true
     ·simp only[hv,Br,Ah,if_false]
      have qh:∀ i u,i<j+1->x.tuples[i]?=some u->xAh s u x.arity=true:=λi u hlt hu=>by
       by_cases qa:i<j
       ·exact hi i u qa hu
       ·obtain rfl:i=j:=xG
        rw[hj] at hu;rw[<- Option.some.inj hu];exact hv
      by_cases h0:0<j
      ·have hjl:j<x.tuples.length:=(Ac.1 hj).1
       have hp:x.tuples[j - 1]?=some (x.tuples[j - 1]'(xG)):=Aa xG;have qc:=hi (j - 1) _ xG hp;generalize x.tuples[j - 1]'(xG)=p at hp qc
       have qd:p.length=t.length:=by
        unfold xAh at qc hv
        simp at qc hv
        omega
       have qj:ck ((j:Int) - 1)=some ((j:Int) - 1):=zO xG xG;have hx:ix x.tuples ((j:Int) - 1)=some p:=iU xG (by rw[show((j:Int) - 1).toNat=j - 1 by omega];exact hp);have qe:(0:Int)<(j:Int):=xG;simp only[qe,decide_true,if_true,qj,hx,bnd_s,xWw p t qd,xLv,thn_nx]
       by_cases hc:cO p t<0
       ·have qf:¬ 0<=cO p t:=xG
        simp only[hc,qf,decide_true,decide_false,Br,Ah,if_false];refine⟨none,rfl,rfl,λ_=>⟨qh,λi a b qk ha hb=>?_⟩,λ_ h=>nomatch h⟩
        by_cases qa:i+1<j
        ·exact qi i a b qa ha hb
        ·obtain rfl:j=i+1:=xG
         rw[show i+1 - 1=i by omega] at hp;rw[hp] at ha;rw[hj] at hb;rw[<- Option.some.inj ha,<- Option.some.inj hb];exact hc
       ·have qf:0<=cO p t:=xG
        simp only[hc,qf,decide_true,decide_false,Co,if_true];exact⟨some false,rfl,rfl,(λh=>nomatch h),λr h=>(Option.some.inj h).symm⟩
      ·have qe:¬ (0:Int)<(j:Int):=xG
       simp only[qe,decide_false,Ah,if_false,thn_nx];exact⟨none,rfl,rfl,λ_=>⟨qh,λi a b qk=>xG⟩,λ_ h=>nomatch h⟩
     ·have ql:xAh s t x.arity=false:=vV hv
      simp only[ql,Co,if_true,thn_nx]
      exact⟨some false,rfl,rfl,(λh=>nomatch h),λr h=>(Option.some.inj h).symm⟩)
   rw[h1,h2]
   cases q with
   | some r=>exact⟨r,rfl,rfl,λh=>by rw[h4 r rfl] at h;cases h⟩
   | none=>exact⟨true,rfl,rfl,λ_=>⟨trivial,trivial,(λt ht=>by
    obtain⟨i,hi,rfl⟩:=List.mem_iff_getElem.1 ht
    exact(h3 rfl).1 i _ xG (Aa hi)),λj t u ht hu=>(h3 rfl).2 j t u (by have:=(Ac.1 hu).1;omega) ht hu⟩⟩
  ·have qm:okS x.arity=false:=vV ha
   simp only[hs,qm,Br,Co,Ah,if_false,if_true,thn_nx];exact⟨false,rfl,rfl,λh=>nomatch h⟩
 ·have qn:okS s=false:=vV hs
  simp only[qn,Co,if_true,thn_nx];exact⟨false,rfl,rfl,λh=>nomatch h⟩
theorem oLd (s:Int) (x:Rel) (hN:x.tuples.length<=1048576):∃ b,pW s x=some b/\fM s x=some b/\(b=true->okS s=true/\okS x.arity=true/\∀ t∈x.tuples,xAh s t x.arity=true):=by
 obtain⟨b,h1,h2,h3⟩:=xYv s x hN;exact⟨b,h1,h2,λh=>⟨(h3 h).1,(h3 h).2.1,(h3 h).2.2.1⟩⟩
end
section
def tO (s:Int) (x:Rel):Bool:=(fM s x).getD false
theorem xVc (s:Int) (x:Rel) (hN:x.tuples.length<=1048576):pW s x=some (tO s x)/\fM s x=some (tO s x)/\(tO s x=true->okS s=true/\okS x.arity=true/\∀ t∈x.tuples,xAh s t x.arity=true):=by
 obtain⟨b,h1,h2,h3⟩:=oLd s x hN
 have:tO s x=b:=by unfold tO;rw[h2];rfl
 rw[this];exact⟨h1,h2,h3⟩
theorem sZ (l:List Rel) (p:Rel->Bool) (f:Rel->Option Bool) (hf:∀ x∈l,f x=some (p x)):vU l f=some (l.any p):=by
 obtain⟨i,h1,h2⟩:=uJ l p f hf
 unfold vU
 rw[show aQ l f=some i from h1,bnd_s,h2]
def lT (x:A6):Bool:=okS x.size && (decide ((x.rels.length:Int)<=6) && x.rels.all (tO x.size))
def lV (x:A6):Prop:=∀ r∈x.rels,r.tuples.length<=1048576
theorem tW (x:A6) (hx:lV x):bH x=some (lT x):=by
 unfold bH
 rw[cR (λ_ r=>if !tO x.size r then some false else none) (λj r hj=>by
  simp only[(xVc x.size r (hx r (Af hj))).1,bnd_s]
  by_cases hv:tO x.size r=true
  ·simp [hv,xAu]
  ·simp [hv,xAu])]
 rw[sY]
 unfold lT
 by_cases ha:x.rels.all (tO x.size)=true
 ·have:x.rels.any (λr=>!tO x.size r)=false:=vV ha
  rw[this,ha];simp only[xIv,Ah,if_false,thn_nx,xEe,bnd_s]
  by_cases hs:okS x.size=true
  ·simp [hs]
  ·have qc:okS x.size=false:=vV hs
   simp [qc]
 ·have qa:x.rels.all (tO x.size)=false:=vV ha
  have:x.rels.any (λr=>!tO x.size r)=true:=vV qa;rw[this,qa]
  simp [xIv]
theorem lN (x:A6) (hx:lV x):zP x=some (lT x):=by
 unfold zP lT
 rw[xHd,sZ x.rels (λr=>!tO x.size r) _ (λr hr=>by
  unfold lC
  rw[show Rel.mk r.arity r.tuples=r from rfl,show(A6.mk x.size x.rels).size=x.size from rfl,(xVc x.size r (hx r hr)).2.1]
  rfl)]
 simp only[bnd_s]
 by_cases hs:okS x.size=true
 ·by_cases hl:(x.rels.length:Int)<=6
  ·simp only[hs,hl,decide_true,if_true,thn_nx,Dh]
   congr 1
   rw[Bool.eq_iff_iff]
   simp
  ·simp [hs,hl]
 ·have qa:okS x.size=false:=vV hs
  simp [qa]
end
section
theorem xYg {a b:Int}:tR a b<0↔a<b:=by
 unfold tR
 split
 ·constructor<;>omega
 ·split<;>constructor<;>omega
theorem wQ {a b:Int} {l m:List Int}:cO (a::l) (b::m)<0↔a<b∨a=b/\cO l m<0:=by
 rw[show cO (a::l) (b::m)=if tR a b≠0 then tR a b else cO l m from rfl]
 by_cases h:tR a b=0
 ·rw[if_neg (by simp [h])]
  have:=tH.1 h;subst this
  constructor
  ·exact λh=>.inr ⟨rfl,h⟩
  ·rintro (h | ⟨_,h⟩)
   ·omega
   ·exact h
 ·rw[if_pos h,xYg]
  have:a≠b:=λe=>h (tH.2 e)
  constructor
  ·exact .inl
  ·rintro (h | ⟨h,_⟩)
   ·exact h
   ·exact absurd h this
theorem tE:∀ {l m:List Int},cO l m=0↔l=m
 | [],[]=>by simp [cO]
 | [],_::_=>by simp [cO]
 | _::_,[]=>by simp [cO]
 | a::l,b::m=>by
  rw[show cO (a::l) (b::m)=if tR a b≠0 then tR a b else cO l m from rfl]
  by_cases h:tR a b=0
  ·rw[if_neg (by simp [h]),tE]
   have:=tH.1 h
   simp [this]
  ·rw[if_pos h]
   have:a≠b:=λe=>h (tH.2 e)
   simp [this,h]
theorem uI:∀ {l m n:List Int},cO l m<0->cO m n<0->cO l n<0
 | [],[],_,h,_=>by simp [cO] at h
 | [],_::_,[],_,h=>by simp [cO] at h
 | [],_::_,_::_,_,_=>by simp [cO]
 | _::_,[],_,h,_=>by simp [cO] at h
 | _::_,_::_,[],_,h=>by simp [cO] at h
 | a::l,b::m,c::n,h1,h2=>by
  rw[wQ] at *
  rcases h1 with h1 | ⟨rfl,h1⟩
  ·rcases h2 with h2 | ⟨rfl,h2⟩
   ·exact .inl xG
   ·exact .inl h1
  ·rcases h2 with h2 | ⟨rfl,h2⟩
   ·exact .inl h2
   ·exact .inr ⟨rfl,uI h1 h2⟩
def Asc (l:List (List Int)):Prop:=l.Pairwise λa b=>cO a b<0
theorem oBy:∀ {l:List (List Int)},(∀ j t u,l[j]?=some t->l[j+1]?=some u->cO t u<0)->Asc l
 | [],_=>List.Pairwise.nil
 | [_],_=>List.pairwise_singleton _ _
 | a::b::l,h=>by
  have ih:Asc (b::l):=oBy (λj t u ht hu=>h (j+1) t u (vV ht) (vV hu));have qa:cO a b<0:=h 0 a b rfl rfl;refine List.Pairwise.cons (λc hc=>?_) ih
  rcases Av.1 hc with rfl | hc
  ·exact qa
  ·exact uI qa (Eh ih hc)
theorem Asc.lt {l:List (List Int)} (h:Asc l) {i j:Nat} {t u:List Int} (qa:i<j) (ht:l[i]?=some t) (hu:l[j]?=some u):cO t u<0:=by
 obtain⟨hi,rfl⟩:=Ac.1 ht;obtain⟨hj,rfl⟩:=Ac.1 hu;exact List.pairwise_iff_getElem.1 h i j hi hj qa
theorem Asc.ext:∀ {l m:List (List Int)},Asc l->Asc m->(∀ x,x∈l↔x∈m)->l=m
 | [],[],_,_,_=>rfl
 | [],b::m,_,_,h=>absurd ((h b).2 vK) vK
 | a::l,[],_,_,h=>absurd ((h a).1 vK) vK
 | a::l,b::m,hl,hm,h=>by
  have irr:∀ x:List Int,¬ cO x x<0:=λx=>by rw[tE.2 rfl];omega
  have qa:a=b:=by
   rcases Av.1 ((h a).1 vK) with e | h1
   ·exact e
   ·rcases Av.1 ((h b).2 vK) with e | h2
    ·exact e.symm
    ·exact absurd (uI (Eh hm h1) (Eh hl h2)) (irr _)
  subst qa
  congr 1
  refine Asc.ext (List.Pairwise.of_cons hl) (List.Pairwise.of_cons hm) (λx=>⟨λhx=>?_,λhx=>?_⟩)
  ·rcases Av.1 ((h x).1 (by simp [hx])) with rfl | h1
   ·exact absurd (Eh hl hx) (irr _)
   ·exact h1
  ·rcases Av.1 ((h x).2 (by simp [hx])) with rfl | h1
   ·exact absurd (Eh hm hx) (irr _)
   ·exact h1
theorem xTq (d v:List Int):pI d v=some (decide (d=v)):=by
 unfold pI
 by_cases hl:d.length=v.length
 ·rw[if_neg (by simp [hl])]
  rw[cR (ρ:=Bool) (λk x=>if (v[k]? != some x)=true then some false else none) (λj x hj=>by
   have hjl:=(Ac.1 hj).1
   have hv:v[0+j]?=some (v[j]'(xG)):=by rw[Bn];exact Aa _
   simp only[vD hv,bnd_s,hv]
   by_cases hx:x=v[j]'(xG)
   ·subst hx;simp [xAu]
   ·have:(x != v[j]'(xG))=true:=vV hx
    have h2:(some (v[j]'(xG)) != some x)=true:=by simpa using λe=>hx e.symm
    rw[this,h2]
    rfl)]
  have key:∀ (d:List Int) (k:Nat),k+d.length=v.length->fnd (λk x=>if (v[k]? != some x)=true then some false else none) d k=if d=v.drop k then none else some false:=by
   intro d
   induction d with
   | nil=>
    intro k hk;have:v.drop k=[]:=Cv (by simp at hk;omega);rw[this]
    rfl
   | cons x d ih=>
    intro k hk
    have qa:k<v.length:=by simp at hk;omega
    have hd:v.drop k=v[k]::v.drop (k+1):=Bt qa
    unfold fnd
    rw[hd,Aa qa]
    by_cases hx:x=v[k]
    ·have e1:(some v[k] != some x)=false:=by rw[hx];simp
     rw[e1,if_neg vK,ih (k+1) (by simp at hk;omega),hx];simp only[List.cons.injEq,true_and]
    ·have h2:(some v[k] != some x)=true:=by simpa using λe=>hx e.symm
     rw[h2,if_pos rfl,if_neg (λe=>hx (List.cons.inj e).1)]
  rw[key d 0 xG,Ex]
  by_cases hd:d=v
  ·rw[if_pos hd];simp [xIv,hd]
  ·rw[if_neg hd];simp [xIv,hd]
 ·rw[if_pos (by simpa using λe=>hl xG)]
  have:d≠v:=λe=>hl (by rw[e])
  simp [this]
theorem xHv (r:Rel) (t:List Int):nI r t=some (decide (t∈r.tuples)):=by
 unfold nI
 rw[cR (ρ:=Bool) (λ_ x=>if (λy=>decide (y=t)) x then some true else none) (λj x hj=>by
  simp only[xTq,bnd_s]
  by_cases hx:x=t<;>simp [hx,xAu])]
 rw[sY]
 by_cases h:t∈r.tuples
 ·rw[if_pos (vV h)];simp [xIv,h]
 ·rw[if_neg (vV h)];simp [xIv,h]
theorem xHj {L:List (List Int)} {t:List Int} (hL:Asc L) (qc:L.length<=1000000) {f:List Int->List Int->Option Int} (hf:∀ a b,f a b=some (cO a b)):∀ (g lo hi N:Nat),hi - lo<=g->g+1<=N->lo<=hi->hi<=L.length->(∀ i x,i<lo->L[i]?=some x->cO x t<0)->(∀ i x,hi<=i->L[i]?=some x->¬ cO x t<0)->
 ∃ k:Nat,k<=L.length/\(∀ i x,i<k->L[i]?=some x->cO x t<0)/\(∀ i x,k<=i->L[i]?=some x->¬ cO x t<0) ∧
 lF (σ:=Int×Int) (ρ:=Int×Bool) (λs=>match s with | (s1,s2)=>if (decide (s1<s2)) then xH (ck (s1+s2)) λz1=>xH (nn z1) λz2=>xH (ix L (z2 / 2)) λz3=>xH (f z3 t) λz4=>if (decide (z4<0)) then xH (ck ((z2 / 2)+1)) λz5=>some (.go (z5,s2)) else some (.go (s1,(z2 / 2))) else some (.brk (s1,s2))) N ((lo:Int),(hi:Int))=some (.nx ((k:Int),(k:Int)))
 | g,lo,hi,N,hg,hN,hlh,hh,h1,h2=>by
  obtain⟨M,rfl⟩:∃ M,N=M+1:=⟨N - 1,xG⟩
  by_cases hlt:lo<hi
  ·cases g with
   | zero=>omega
   | succ g=>
   have hm:(lo+hi) / 2<L.length:=xG;have e2:((lo:Int)+(hi:Int)) / 2=(((lo+hi) / 2:Nat):Int):=xG;have hx:L[(lo+hi) / 2]?=some L[(lo+hi) / 2]:=Aa hm
   by_cases hc:cO L[(lo+hi) / 2] t<0
   ·obtain⟨k,k1,k2,k3,k4⟩:=xHj hL qc hf g ((lo+hi) / 2+1) hi M xG xG xG hh (λi x qd qa=>by
     rcases Ec i ((lo+hi) / 2) with h | h
     ·exact uI (hL.lt h qa hx) hc
     ·obtain rfl:i=(lo+hi) / 2:=xG
      rw[hx] at qa;rw[<- Option.some.inj qa]
      exact hc) h2
    refine⟨k,k1,k2,k3,?_⟩
    rw[eF (s':=((((lo+hi) / 2+1:Nat):Int),(hi:Int))) (by
     have h3:(lo:Int)<(hi:Int):=xG;simp only[h3,decide_true,if_true,zO (x:=(lo:Int)+(hi:Int)) xG xG,bnd_s,oGd (x:=(lo:Int)+(hi:Int)) xG,e2,vD hx,hf,hc,zO (x:=(((lo+hi) / 2:Nat):Int)+1) xG xG]
     rfl)]
    exact k4
   ·obtain⟨k,k1,k2,k3,k4⟩:=xHj hL qc hf g lo ((lo+hi) / 2) M xG xG xG xG h1 (λi x qd qa=>by
     rcases Ec ((lo+hi) / 2) i with h | h
     ·exact λh4=>hc (uI (hL.lt h hx qa) h4)
     ·obtain rfl:i=(lo+hi) / 2:=xG
      rw[hx] at qa;rw[<- Option.some.inj qa]
      exact hc)
    refine⟨k,k1,k2,k3,?_⟩
    rw[eF (s':=((lo:Int),(((lo+hi) / 2:Nat):Int))) (by
     have h3:(lo:Int)<(hi:Int):=xG
     simp only[h3,decide_true,if_true,zO (x:=(lo:Int)+(hi:Int)) xG xG,bnd_s,oGd (x:=(lo:Int)+(hi:Int)) xG,e2,vD hx,hf,hc,decide_false,Ah,if_false])]
    exact k4
  ·obtain rfl:lo=hi:=xG
   refine⟨lo,hh,h1,h2,?_⟩;rw[bU]
   simp
theorem xQb {N:Nat} {r:Rel} {t:List Int} (hr:Asc r.tuples) (hlen:r.tuples.length<=1000) (hN:1002<=N):lM N r t=some (decide (t∈r.tuples)):=by
 unfold lM zS
 have hf:∀ a b,pA a b=some (cO a b):=λa b=>by unfold pA;rw[xLv];rfl
 obtain⟨k,k1,k2,k3,k4⟩:=xHj (t:=t) hr xG hf r.tuples.length 0 r.tuples.length N xG xG xG xG (λi x hi=>absurd hi xG) (λi x hi hx=>absurd (Ac.1 hx).1 xG);rw[show((0:Nat):Int)=0 from rfl] at k4;rw[k4,thn_nx]
 by_cases hk:k<r.tuples.length
 ·have hx:r.tuples[k]?=some r.tuples[k]:=Aa hk
  have h1:(k:Int)<(r.tuples.length:Int):=xG;simp only[h1,decide_true,if_true,vD hx,bnd_s,hf,thn_nx]
  congr 1
  rw[show(cO r.tuples[k] t==0)=decide (cO r.tuples[k] t=0) from rfl];refine decide_eq_decide.2 ⟨λh=>?_,λh=>?_⟩
  ·rw[<- tE.1 h];exact Bs hk
  ·obtain⟨j,hj,e⟩:=Bx h
   have qa:r.tuples[j]?=some t:=by rw[Aa hj,e]
   rcases Nat.lt_trichotomy j k with h5 | h5 | h5
   ·have:=k2 j t h5 qa
    rw[tE.2 rfl] at this
    omega
   ·subst h5
    rw[e];exact tE.2 rfl
   ·exact absurd (hr.lt h5 hx qa) (k3 k _ (Az _) hx)
 ·have h1:¬ (k:Int)<(r.tuples.length:Int):=xG
  simp only[h1,decide_false,Ah,if_false,thn_nx,bnd_s]
  have:t ∉ r.tuples:=λh=>by
   obtain⟨j,hj,e⟩:=Bx h;have:=k2 j t xG (by rw[Aa hj,e]);rw[tE.2 rfl] at this
   omega
  simp [this]
def vQ (T:Nat):Nat->List (List Int) | 0=>[[]] | n+1=>(List.range T).flatMap λ(a:Nat)=>(vQ T n).map (λl=>(a:Int)::l)
theorem xKs:∀ T∈[1,2,3,4],∀ n∈[1,2,3,4],vO (T:Nat) (n:Nat)=some ((vQ T n).length:Int)/\qQ 10 (T:Nat) (n:Nat)=some ((vQ T n).length:Int)/\(vQ T n).length<=256/\(List.range (vQ T n).length).map (λ(k:Nat)=>qX 10 (T:Nat) (n:Nat) (k:Int))=(vQ T n).map some:=by decide +kernel
theorem cC {T:Nat}:∀ {n:Nat} {l:List Int},l∈vQ T n↔l.length=n/\∀ a∈l,0<=a/\a<T
 | 0,l=>by
  unfold vQ
  constructor
  ·intro h;simp at h;subst h;simp
  ·intro h
   have:=Cc.1 h.1
   simp [this]
 | n+1,l=>by
  unfold vQ
  rw[List.mem_flatMap]
  constructor
  ·rintro ⟨a,ha,h⟩
   obtain⟨m,hm,rfl⟩:=Cy.1 h;obtain⟨h1,h2⟩:=cC.1 hm;rw[List.mem_range] at ha;refine⟨by simp [h1],λb hb=>?_⟩
   rcases Av.1 hb with rfl | hb
   ·exact⟨xG,xG⟩
   ·exact h2 b hb
  ·rintro ⟨h1,h2⟩
   cases l with
   | nil=>simp at h1
   | cons a l=>
    obtain⟨h3,h4⟩:=h2 a vK;refine⟨a.toNat,List.mem_range.2 xG,Cy.2 ⟨l,cC.2 ⟨by simpa using h1,λb hb=>h2 b (by simp [hb])⟩,?_⟩⟩;rw[Int.toNat_of_nonneg h3]
theorem xLa (T:Nat):∀ n,Asc (vQ T n)
 | 0=>List.pairwise_singleton _ _
 | n+1=>by
  unfold vQ Asc
  rw[List.pairwise_flatMap];refine⟨λa _=>?_,?_⟩
  ·rw[List.pairwise_map]
   exact(xLa T n).imp (λh=>wQ.2 (.inr ⟨rfl,h⟩))
  ·refine(List.pairwise_lt_range (n:=T)).imp (λ{a b} hab x hx y hy=>?_)
   obtain⟨m,_,rfl⟩:=Cy.1 hx;obtain⟨m',_,rfl⟩:=Cy.1 hy;exact wQ.2 (.inl xG)
end
section
theorem xGd {α:Type} {b:Nat->α->Unit->Option (Ctl Unit Bool)} (p:α->Bool) {l:List α} (h:∀ j x,l[j]?=some x->b j x ()=some (if p x then .go () else .ret false)) :
 qD (oM b l 0 ()) (λ_=>some true)=some (l.all p):=by
 rw[cR (ρ:=Bool) (λ_ x=>if (λy=>!p y) x then some false else none) (λj x hj=>by
  rw[Bn,h j x hj]
  cases hp:p x<;>simp [hp,xAu]),sY]
 by_cases hp:l.all p=true
 ·have:l.any (λy=>!p y)=false:=by
   rw[List.any_eq_false];intro x hx
   simp [Cm.1 hp x hx]
  rw[this,hp]
  rfl
 ·have h2:l.all p=false:=vV hp
  have:l.any (λy=>!p y)=true:=by
   rw[<- Eu,h2]
   rfl
  rw[this,h2]
  rfl
def atV (vs args:List Int):List Int:=args.map λi=>vs.getD i.toNat 0
theorem xVg {ρ:Type} (vs:List Int):∀ (args:List Int) (k:Nat) (s:List Int),(∀ i∈args,0<=i/\i<vs.length)->s.length+args.length<=1000000->
 oM (σ:=List Int) (ρ:=ρ) (λk1 (x1:Int) s1=>xH (ix vs x1) λz1=>xH (ap s1 ([z1])) λz2=>some (.go z2)) args k s=some (.nx (s++atV vs args))
 | [],_,s,_,_=>by simp [atV,oM]
 | i::args,k,s,h,hs=>by
  obtain⟨h0,h1⟩:=h i vK
  have hx:vs[i.toNat]?=some (vs.getD i.toNat 0):=by
   rw[Ap,Aa xG]
   rfl
  rw[Ao] at hs
  rw[vS (s':=s++[vs.getD i.toNat 0]) (by
   simp only[iU h0 hx,bnd_s,aC (l:=s) (m:=[vs.getD i.toNat 0]) (by simp only[Ao,Bh];omega)])]
  rw[xVg vs args (k+1) _ (λj hj=>h j (by simp [hj])) (by rw[Ar,Am];omega)]
  simp [atV]
theorem xKc {vs args:List Int} (h:∀ i∈args,0<=i/\i<vs.length) (hl:args.length<=1000):tN vs args=some (atV vs args):=by
 unfold tN
 rw[xVg vs args 0 [] h (by simp only[Bh];omega),thn_nx,Bp]
theorem xWh {vs args:List Int} (h:∀ i∈args,0<=i/\i<vs.length) (hl:args.length<=1000):xCb vs args=some (atV vs args):=xKc h hl
def xSq (T:Nat) (r:Rel):Prop:=∃ n:Nat,r.arity=n/\1<=n/\n<=4/\Asc r.tuples/\∀ t∈r.tuples,t∈vQ T n
theorem xMh {T:Nat} {r:Rel} {n:Nat} (h:Asc r.tuples) (hm:∀ t∈r.tuples,t∈vQ T n):r.tuples=(vQ T n).filter λt=>decide (t∈r.tuples):= Asc.ext h ((xLa T n).filter _) (λx=>⟨λhx=>Df.2 ⟨hm x hx,vV hx⟩,λhx=>by simpa using (Df.1 hx).2⟩)
theorem xSn {T n:Nat} (hT:1<=T/\T<=4) (hn:1<=n/\n<=4):(vQ T n).length<=256:=(xKs T (by simp;omega) n (by simp;omega)).2.2.1
theorem xSq.len {T:Nat} {r:Rel} (hT:1<=T/\T<=4) (h:xSq T r):r.tuples.length<=256:=by
 obtain⟨n,_,h1,h2,h3,h4⟩:=h;rw[xMh h3 h4];exact Cb (Ez _ _) (xSn hT ⟨h1,h2⟩)
structure TV (T:Nat) (u:A6):Prop where
  s:u.size=T
  t:1<=T/\T<=4
  r:∀ r∈u.rels,xSq T r
  n:u.rels.length<=6
def mx (l:List Int):Int:=l.foldl (λs x=>if x<s then s else x) 0
theorem oGg {l:List Int}:∀ {s:Int},(s<=l.foldl (λs x=>if x<s then s else x) s)/\∀ x∈l,x<=l.foldl (λs x=>if x<s then s else x) s:=by
 induction l with
 | nil=>intro s;exact⟨Int.le_refl _,vK⟩
 | cons y l ih=>
  intro s;rw[List.foldl_cons];obtain⟨h1,h2⟩:=ih (s:=if y<s then s else y)
  have hs:s<=(if y<s then s else y)/\y<=(if y<s then s else y):=by split<;>omega
  refine⟨Int.le_trans hs.1 h1,λx hx=>?_⟩
  rcases Av.1 hx with rfl | hx
  ·exact Int.le_trans hs.2 h1
  ·exact h2 x hx
theorem oJi {l:List Int}:∀ {s:Int},l.foldl (λs x=>if x<s then s else x) s=s∨l.foldl (λs x=>if x<s then s else x) s∈l:=by
 induction l with
 | nil=>intro s;exact .inl rfl
 | cons y l ih=>
  intro s;rw[List.foldl_cons]
  rcases ih (s:=if y<s then s else y) with h | h
  ·rw[h]
   split
   ·exact .inl rfl
   ·exact .inr vK
  ·exact .inr (by simp [h])
theorem oKm {l:List Int} {n:Int} (h:∀ i∈l,0<=i/\i<n) (hn:0<n):0<=mx l/\mx l<n:=by
 refine⟨oGg.1,?_⟩
 rcases oJi (l:=l) (s:=0) with e | e
 ·unfold mx;rw[e];exact hn
 ·exact(h _ e).2
theorem xSt {ρ:Type} (x0:Int) (L:List Int):∀ (l:List Int) (k:Nat) (s:Int),L.drop k=l->qU (σ:=Int) (ρ:=ρ) (λk1 s1=>xH (ix (x0::L) (1+(k1:Int))) λz1=>some (.go (if s1<z1 then z1 else s1))) l.length k s=some (.nx (l.foldl (λs x=>if x<s then s else x) s))
 | [],_,_,_=>rfl
 | x::l,k,s,h=>by
  have hx:(x0::L)[1+k]?=some x:=by
   rw[Ep,List.getElem?_cons_succ,<- Ev,h]
   rfl
  have e:(1:Int)+(k:Int)=((1+k:Nat):Int):=xG
  rw[Ao,zQ (s':=if x<s then s else x) (by
   rw[e,vD hx,bnd_s]
   by_cases h1:x<s
   ·rw[if_neg xG,if_pos h1]
   ·rw[if_neg h1]
    by_cases h2:s<x
    ·rw[if_pos h2]
    ·rw[if_neg h2,show s=x by omega]),xSt x0 L l (k+1) _ (by rw[<- Es,h];rfl)]
  rfl
theorem oJe {l:List Int} (h:∀ i∈l,0<=i) (hl:1<=l.length):kI l=some (mx l):=by
 cases l with
 | nil=>simp at hl
 | cons x l=>
  unfold kI
  have h1:¬ (((x::l).length:Nat):Int)<1:=by simp;omega
  have h2:((((x::l).length:Nat):Int) - 1).toNat=l.length:=vK;rw[if_neg (vV h1),thn_nx,show ix (x::l) 0=some x from rfl,bnd_s,h2,xSt x l l 0 x rfl,thn_nx]
  unfold mx
  rw[List.foldl_cons];have:=h x vK
  by_cases h3:x<0
  ·omega
  ·rw[if_neg h3]
end
section

end
section
theorem xGh {σ ρ:Type} {b:σ->Option (Ctl σ ρ)} {r:Out σ ρ}:∀ {m M:Nat} {s:σ},lF b m s=some r->m<=M->lF b M s=some r
 | 0,_,_,h,_=>by cases h
 | m+1,M,s,h,hM=>by
  obtain⟨K,rfl⟩:∃ K,M=K+1:=⟨M - 1,xG⟩
  unfold lF at h ⊢
  cases hb:b s with
  | none=>rw[hb] at h;cases h
  | some c=>
   rw[hb] at h
   cases c with
   | go s'=>exact xGh h xG
   | brk s'=>exact h
   | ret v=>exact h
theorem oBx {σ ρ:Type} {o:Out σ ρ} {k:σ->Option ρ} {r:ρ} (h:oHs k r o):qD (some o) k=some r:=by
 cases o with
 | nx s=>exact h
 | ret v=>exact congrArg some h
theorem xBf {m M:Nat} {a b c:Int} {d:List Int} (h:qX m a b c=some d) (hM:m<=M):qX M a b c=some d:=by
 unfold qX at h ⊢
 obtain⟨z,h1,h⟩:=bP h;obtain⟨y,h2,h⟩:=bP h;obtain⟨o,ho,hk⟩:=xLp h;rw[h1,bnd_s,h2,bnd_s,xGh ho hM];exact oBx hk
theorem xDt {m M:Nat} {a b c:Int} (h:qQ m a b=some c) (hM:m<=M):qQ M a b=some c:=by
 unfold qQ at h ⊢
 obtain⟨o,ho,hk⟩:=xLp h;rw[xGh ho hM];exact oBx hk
theorem xOa:zJ=qX:=rfl
theorem oHw {T n k N:Nat} (hT:1<=T/\T<=4) (hn:1<=n/\n<=4) (hN:10<=N) (hk:k<(vQ T n).length):qX N (T:Int) (n:Int) (k:Int)=some (vQ T n)[k]:=by
 have h:=(xKs T (by simp;omega) n (by simp;omega)).2.2.2
 have h1:((List.range (vQ T n).length).map (λ(k:Nat)=>qX 10 (T:Nat) (n:Nat) (k:Int)))[k]?=some (some (vQ T n)[k]):=by
  rw[h,Bc,Aa hk]
  rfl
 rw[Bc,Ef hk] at h1;exact xBf (Option.some.inj h1) hN
theorem oHh {T n N:Nat} (hT:1<=T/\T<=4) (hn:1<=n/\n<=4) (hN:10<=N):vO (T:Int) (n:Int)=some ((vQ T n).length:Int)/\qQ N (T:Int) (n:Int)=some ((vQ T n).length:Int):=by
 have h:=xKs T (by simp;omega) n (by simp;omega);exact⟨h.1,xDt h.2.1 hN⟩
theorem xGp {ρ:Type} {N:Nat} {T n:Int} {E:List (List Int)} {is:List Int->Option Bool} (W:List Int->Bool) (hd:∀ (k:Nat) (h:k<E.length),qX N T n (k:Int)=some E[k]) (hi:∀ d∈E,is d=some (W d)):∀ (m k:Nat) (s:List (List Int)),k+m=E.length->s.length+m<=1000->
 qU (σ:=List (List Int)) (ρ:=ρ) (λk1 s1=>xH (qX N T n (k1:Int)) λz1=>xH (is z1) λz2=>if z2 then xH (ap s1 ([z1])) λz3=>some (.go z3) else some (.go s1)) m k s=some (.nx (s++(E.drop k).filter W))
 | 0,k,s,hk,_=>by
  rw[Cv xG]
  simp [qU]
 | m+1,k,s,hk,hs=>by
  have qa:k<E.length:=xG;have hw:=hi _ (Bs qa);rw[Bt qa,Dz]
  by_cases h:W E[k]=true
  ·rw[zQ (s':=s++[E[k]]) (by
    rw[hd k qa,bnd_s,hw,bnd_s,h,if_pos rfl,aC (by simp only[Ao,Bh];omega),bnd_s]),xGp W hd hi m (k+1) _ xG (by rw[Ar,Am];omega),if_pos h]
   simp
  ·rw[zQ (s':=s) (by
    rw[hd k qa,bnd_s,hw,bnd_s,if_neg h]),xGp W hd hi m (k+1) _ xG xG,if_neg h]
theorem xSi {N T n:Nat} (hT:1<=T/\T<=4) (hn:1<=n/\n<=4) (hN:10<=N) {is:List Int->Option Bool} (W:List Int->Bool) (hi:∀ d∈vQ T n,is d=some (W d)):jZ N (T:Int) (n:Int) is=some ⟨n,(vQ T n).filter W⟩:=by
 unfold jZ
 have hl:=xSn hT hn;rw[(oHh hT hn hN).1,bnd_s,Ad,xGp W (λk h=>oHw hT hn hN h) hi _ 0 [] xG (by simp only[Bh];omega),thn_nx,Bp,Ex]
end
section
variable {t:A6}
theorem oJm {s:Int} {x:Rel} (hN:x.tuples.length<=1048576) (h:tO s x=true):okS s=true/\xSq s.toNat x:=by
  obtain⟨b,_,h2,h3⟩:=xYv s x hN
  have hb:b=true:=by unfold tO at h;rw[h2] at h;exact h
  obtain⟨h4,h5,h6,h7⟩:=h3 hb;have hs:=xQu h4;have ha:=xQu h5;refine⟨h4,x.arity.toNat,xG,xG,xG,oBy h7,λt ht=>cC.2 ?_⟩;have h8:=h6 t ht
  unfold xAh at h8
  rw[Be] at h8
  refine ⟨by have : (t.length : Int) = x.arity := vV h8.1
             omega,λa ha=>?_⟩
  have h9:=Cm.1 h8.2 a ha
  unfold okV at h9
  simp at h9
  omega
theorem xMl {u:A6} (hu:lV u) (h:lT u=true):TV u.size.toNat u:=by
 unfold lT at h
 rw[Be,Be] at h;obtain⟨h1,h2,h3⟩:=h;have hs:=xQu h1;exact⟨xG,xG,λr hr=>(oJm (hu r hr) (Cm.1 h3 r hr)).2,by have:=of_decide_eq_true h2;omega⟩
theorem xOk {s:Int} (h:1<=s/\s<=1000) (a:Int):fD s a=some (okV s a):=by
 unfold fD
 rw[zO xG xG,bnd_s,eV]
 rfl
theorem xRw {s:Int} (h:1<=s/\s<=1000) (ar:Int) (t:List Int):bA s t ar=some (xAh s t ar):=by
 unfold bA xAh
 by_cases hl:((t.length:Int)==ar)=true
 ·rw[hl,if_pos rfl,sW t (λx=>!okV s x) _ (λx=>by unfold lL;rw[xOk h,bnd_s])]
  rw[bnd_s,thn_nx,Dh,<- Eu,Bool.not_not]
 ·have qa:((t.length:Int)==ar)=false:=vV hl
  rw[qa,if_neg vK,thn_nx,Bool.false_and]
theorem oBr {s:Int} (h:1<=s/\s<=1000) (t:List Int):nX t s=some (t.all (okV s)):=by
 unfold nX
 exact xGd (okV s) (λj x hx=>by
  simp only[zO (x:=s - 1) xG xG,bnd_s,dN]
  unfold okV
  cases (decide (0<=x) && decide (x<=s - 1))<;>rfl)
def pX (V:Int) (m:Nat):List Int:=(List.range m).map λ(i:Nat)=>V+i
theorem oAq (V:Int) (m:Nat):(pX V m).length=m:=by simp [pX]
theorem xGv (V:Int) (m:Nat):pX V (m+1)=V::pX (V+1) m:=by
 unfold pX
 rw[List.range_succ_eq_map,Dg,List.map_map];simp only[Int.natCast_zero,Int.add_zero,List.cons.injEq,true_and]
 apply List.map_congr_left
 intro i _;simp only[Function.comp]
 push_cast
 omega
theorem xOe {ρ:Type} (V:Int) (h0:0<=V):∀ (m k:Nat) (s:List Int),V+k+m<=1000000->s.length+m<=1000000->
 qU (σ:=List Int) (ρ:=ρ) (λk1 s1=>xH (ck (V+(k1:Int))) λz1=>xH (ap s1 ([z1])) λz2=>some (.go z2)) m k s=some (.nx (s++pX (V+k) m))
 | 0,k,s,_,_=>by simp [qU,pX]
 | m+1,k,s,h1,h2=>by
  have e:V+((k+1:Nat):Int)=V+k+1:=xG;rw[zQ (s':=s++[V+k]) (by rw[zO xG xG,bnd_s,aC (by simp only[Ao,Bh];omega),bnd_s]),xOe V h0 m (k+1) _ xG (by rw[Ar,Am];omega),xGv,e]
  simp
theorem xJr {V:Int} {m:Nat} (h0:0<=V) (h1:V+m<=1000000):rD V (m:Int)=some (pX V m):=by
 unfold rD
 have:=xOe (ρ:=List Int) V h0 m 0 [] xG (by simp only[Bh];omega);rw[Ad,this,thn_nx,Bp]
 simp
theorem oBj {m:Nat} (h1:m<=1000000):rF (m:Int)=some (pX 0 m):=by
 unfold rF
 have key:∀ (m k:Nat) (s:List Int),k+m<=1000000->s.length+m<=1000000->qU (σ:=List Int) (ρ:=List Int) (λk1 s1=>xH (ap s1 ([(k1:Int)])) λz1=>some (.go z1)) m k s=some (.nx (s++pX (k:Int) m)):=by
  intro m
  induction m with
  | zero=>intro k s _ _;simp [qU,pX]
  | succ m ih=>
   intro k s h2 h3;have e:((k+1:Nat):Int)=(k:Int)+1:=xG;rw[zQ (s':=s++[(k:Int)]) (by rw[aC (by simp only[Ao,Bh];omega),bnd_s]),ih (k+1) _ xG (by rw[Ar,Am];omega),xGv,e]
   simp
 rw[Ad,key m 0 [] xG (by simp only[Bh];omega),thn_nx,Bp]
 rfl
def CV (t:A6) (n:Int) (c:Con):Prop:=(∀ i∈c.scope,0<=i/\i<n)/\∃ r:Rel,0<=c.rel/\t.rels[c.rel.toNat]?=some r/\r∈t.rels/\(c.scope.length:Int)=r.arity
def xWk (t:A6) (vars:Int) (c:Con):Bool:=(decide (0<=c.rel) && decide (c.rel<=(t.rels.length:Int) - 1)) && (((c.scope.length:Int)==(t.rels.getD c.rel.toNat default).arity) && c.scope.all (okV vars))
def sO (t:A6) (x:A7):Bool:=lT t && ((decide (1<=x.vars) && decide (x.vars<=10)) && (decide ((x.cons.length:Int)<=24) && x.cons.all (xWk t x.vars)))
theorem xZp {c:Con} (h:(decide (0<=c.rel) && decide (c.rel<=(t.rels.length:Int) - 1))=true):ix t.rels c.rel=some (t.rels.getD c.rel.toNat default):=by
 simp at h
 exact iU h.1 (by rw[Ap,Aa xG];rfl)
theorem yM (l:List Con) (p:Con->Bool) (f:Con->Option Bool) (hf:∀ x∈l,f x=some (p x)):zB l f=some (l.any p):=by
 obtain⟨i,h1,h2⟩:=uJ l p f hf
 unfold zB aO
 rw[h1,bnd_s,h2]
theorem xGc {x:A7} (ht:lV t):lD t x=some (sO t x)/\aN t x=some (sO t x):=by
 have e0:zP (A6.mk t.size t.rels)=some (lT t):=lN t ht
 unfold lD aN sO
 rw[tW t ht,e0,bnd_s,bnd_s]
 by_cases h1:lT t=true
 ·have hn:=(xMl ht h1).n
  simp only[h1,Br,Ah,if_false,if_true,Dh,dN,bnd_s]
  unfold xBl
  simp only[eV,bnd_s]
  by_cases h2:(decide (1<=x.vars) && decide (x.vars<=10))=true
  ·have hv:1<=x.vars/\x.vars<=10:=vV h2
   simp only[h2,Br,Ah,if_false,if_true,Dh,thn_nx]
   by_cases h3:(x.cons.length:Int)<=24
   ·have qa:¬ (24:Int)<(x.cons.length:Int):=xG
    simp only[h3,qa,decide_true,decide_false,Ah,if_false,if_true,Dh]
    constructor
    ·exact xGd (xWk t x.vars) (λj c _=>by
      simp only[zO (x:=(t.rels.length:Int) - 1) xG xG,bnd_s]
      unfold xWk
      by_cases h4:(decide (0<=c.rel) && decide (c.rel<=(t.rels.length:Int) - 1))=true
      ·rw[h4]
       simp only[Br,Ah,if_false,Dh,xZp h4,bnd_s]
       by_cases h5:((c.scope.length:Int)==(t.rels.getD c.rel.toNat default).arity)=true
       ·have h6:((c.scope.length:Int) != (t.rels.getD c.rel.toNat default).arity)=false:=vV h5
        rw[h6,h5,if_neg vK,oBr xG,bnd_s,thn_nx]
        cases c.scope.all (okV x.vars)<;>rfl
       ·have qd:((c.scope.length:Int)==(t.rels.getD c.rel.toNat default).arity)=false:=vV h5
        have h6:((c.scope.length:Int) != (t.rels.getD c.rel.toNat default).arity)=true:=vV h5;rw[h6,qd,if_pos rfl,thn_nx]
        rfl
      ·have qc:(decide (0<=c.rel) && decide (c.rel<=(t.rels.length:Int) - 1))=false:=vV h4
       rw[qc]
       rfl)
    ·rw[yM x.cons (λc=>!xWk t x.vars c) _ (λc _=>by
      unfold jR
      simp only[zO (x:=(t.rels.length:Int) - 1) xG xG,bnd_s,eV]
      unfold xWk
      by_cases h4:(decide (0<=c.rel) && decide (c.rel<=(t.rels.length:Int) - 1))=true
      ·rw[h4]
       simp only[Br,Ah,if_false,Dh,xZp h4,bnd_s,xRw (s:=x.vars) xG,thn_nx]
       rfl
      ·have qc:(decide (0<=c.rel) && decide (c.rel<=(t.rels.length:Int) - 1))=false:=vV h4
       rw[qc]
       rfl),bnd_s,thn_nx,<- Eu,Bool.not_not]
   ·have qa:(24:Int)<(x.cons.length:Int):=xG
    simp [h3,qa]
  ·have qe:(decide (1<=x.vars) && decide (x.vars<=10))=false:=vV h2
   rw[qe];exact⟨rfl,rfl⟩
 ·have qf:lT t=false:=vV h1
  rw[qf];exact⟨rfl,rfl⟩
theorem xJm {x:A7} (h:sO t x=true):(1<=x.vars/\x.vars<=10)/\x.cons.length<=24/\∀ c∈x.cons,CV t x.vars c:=by
 unfold sO at h
 simp only[Be,Bj] at h;obtain⟨_,h2,h3,h4⟩:=h;refine⟨h2,xG,λc hc=>?_⟩;have h5:=Cm.1 h4 c hc
 unfold xWk at h5
 simp only[Be,Bj] at h5;obtain⟨qa,h7,h8⟩:=h5;have h9:(c.scope.length:Int)=(t.rels.getD c.rel.toNat default).arity:=vV h7;refine⟨λi hi=>?_,_,qa.1,?_,?_,h9⟩
 ·have:=Cm.1 h8 i hi
  unfold okV at this
  simp at this
  omega
 ·rw[Ap,Aa xG];rfl
 ·rw[Ap,Aa (show c.rel.toNat<t.rels.length by omega)]
  exact Bs _
def CW (u:A6) (n:Int) (c:Con):Prop:=CV u n c/\c.scope.length<=4
def xDx (u:A6) (vs:List Int) (c:Con):Bool:=decide (atV vs c.scope∈(u.rels.getD c.rel.toNat default).tuples)
end
section
variable {t:A6} {T:Nat} {y:A7}
theorem xLs {ρ:Type} {T:Int} {f:Nat->List (List Int)->Option (Ctl (List (List Int)) ρ)} {d:List Int} (hf:∀ k s,s.length<=1000->f k s=some (.go (s++[d]))):∀ (m k:Nat) (s:List (List Int)),s.length+m<=1000->qU f m k s=some (.nx (s++List.replicate m d))
 | 0,k,s,h=>by simp [qU]
 | m+1,k,s,h=>by
  rw[zQ (hf k s xG),xLs (T:=T) hf m (k+1) _ (by simp;omega),Dk,Dl]
  rfl
theorem xOb (hu:TV T t) (hv:1<=y.vars/\y.vars<=10):gA t y=some (List.replicate y.vars.toNat (pX 0 T)):=by
 have hT:=hu.t
 unfold gA
 rw[xLs (T:=0) (d:=pX 0 T) (λk s hs=>by
  rw[hu.s,xJr xG xG,bnd_s,aC (by simp only[Ao,Bh];omega),bnd_s]) y.vars.toNat 0 [] (by simp only[Bh];omega),thn_nx,Bp]
theorem xNw (hu:TV T t) (hv:1<=y.vars/\y.vars<=10):nV t y=some (List.replicate y.vars.toNat (pX 0 T)):=by
 have hT:=hu.t
 unfold nV
 rw[xLs (T:=0) (d:=pX 0 T) (λk s hs=>by
  rw[hu.s,oBj xG,bnd_s,aC (by simp only[Ao,Bh];omega),bnd_s]) y.vars.toNat 0 [] (by simp only[Bh];omega),thn_nx,Bp]
theorem oEi (m:Nat) (d:List Int):tot (List.replicate m d)=m*d.length:=by
 unfold tot
 rw[List.map_replicate,List.sum_replicate_nat]
theorem xTi (V:Int) (m:Nat):(pX V m).Nodup:=by
 unfold pX
 refine List.Pairwise.map _ (λa b h=>?_) (List.nodup_range (n:=m));intro h2;exact h xG
theorem xYe (hu:TV T t) {c:Con} (h:CV t y.vars c) (hv:1<=y.vars):ConOk t c y.vars.toNat:=by
 obtain⟨h1,r,r0,r1,r2,r3⟩:=h;obtain⟨n,e,n1,n4,_,hm⟩:=hu.r r r2;exact⟨⟨r,iU r0 r1,λa ha=>by have:=(cC.1 (hm a ha)).1;omega⟩,λv hv=>by have:=h1 v hv;omega,xG⟩
theorem oKo {n:Int} (hu:TV T t) {c:Con} (h:CV t n c):CW t n c:=by
 obtain⟨h1,r,r0,r1,r2,r3⟩:=h;obtain⟨m,e,n1,n4,_,hm⟩:=hu.r r r2;exact⟨⟨h1,r,r0,r1,r2,r3⟩,xG⟩
end
section
variable {T:Nat} {N:Nat}
theorem xDq:fG=aG:=rfl
theorem oIh (f:Nat->Nat) (h:∀ j,j+1<T->f j<f (j+1)) (hT:∀ j,j<T->f j<T):∀ j,j<T->f j=j:=by
 have h1:∀ j,j<T->j<=f j:=by
  intro j
  induction j with
  | zero=>intro _;omega
  | succ j ih=>intro hj;have:=ih xG;have:=h j hj;omega
 have h2:∀ d j,j+d+1=T->f j+d<T:=by
  intro d
  induction d with
  | zero=>intro j hj;exact hT j xG
  | succ d ih=>intro j hj;have:=ih (j+1) xG;have:=h j xG;omega
 intro j hj;have:=h1 j hj;have:=h2 (T - 1 - j) j xG
 omega
theorem xRe {ρ:Type} {T:Int} (hT:1<=T):∀ (i:Nat) (r:Int) (d:List Int) (N:Nat),i<=d.length->i<=1000->0<=r->r<=9223372036854775807->(∀ a∈d,0<=a/\a<T)->i+1<=N->
 ∃ r' j d',lF (σ:=Int×Int×(List Int)) (ρ:=ρ) (λs=>match s with | (s64,s1,s2)=>if (decide (0<=s1)) then xH (rm s64 T) λz1=>xH (ix s2 s1) λz2=>xH (dv s64 T) λz3=>xH (ck (s1 - 1)) λz4=>some (.go (z3,z4,(s2.set (s1).toNat z1))) else some (.brk (s64,s1,s2))) N (r,(i:Int) - 1,d)=some (.nx (r',j,d'))/\d'.length=d.length/\∀ a∈d',0<=a/\a<T
 | 0,r,d,N,_,_,h0,h1,hd,hN=>by
  obtain⟨M,rfl⟩:∃ M,N=M+1:=⟨N - 1,xG⟩;refine⟨r,((0:Nat):Int) - 1,d,bU ?_,rfl,hd⟩
  simp
 | i+1,r,d,N,hi,hi2,h0,h1,hd,hN=>by
  obtain⟨M,rfl⟩:∃ M,N=M+1:=⟨N - 1,xG⟩;have e1:((i+1:Nat):Int) - 1=(i:Int):=xG;have hx:d[i]?=some (d[i]'(xG)):=Aa xG;have qa:=Fb r (show T≠0 by omega);have qc:=Ek r (show 0<T by omega)
  have hr:rm r T=some (r % T):=by unfold rm;rw[if_neg xG,Cp h0]
  have qd:=Int.ediv_nonneg h0 (show 0<=T by omega);have hq1:=Int.ediv_le_self T h0
  have qe:dv r T=some (r / T):=by unfold dv;rw[if_neg xG,Int.tdiv_eq_ediv_of_nonneg h0];exact zO xG xG
  obtain⟨r',j,d',h2,h3,h4⟩:=xRe (ρ:=ρ) hT i (r / T) (d.set i (r % T)) M (by rw[Cl];omega) xG qd xG (λa ha=>by
   rcases Dd ha with h | rfl
   ·exact hd a h
   ·exact⟨qa,qc⟩) xG
  refine⟨r',j,d',?_,by rw[h3,Cl],h4⟩;rw[e1]
  rw[eF (s':=(r / T,(i:Int) - 1,d.set i (r % T))) (by
   have qf:(0:Int)<=(i:Int):=xG
   simp only[qf,decide_true,if_true,hr,bnd_s,vD hx,qe,zO (x:=(i:Int) - 1) xG xG,Ad])]
  exact h2
theorem xDu {T k:Int} {m:Nat} (hT:1<=T) (hm:m<=1000) (h0:0<=k) (h1:k<=9223372036854775807) (hN:m+1<=N):∃ d,qX N T (m:Int) k=some d/\d.length=m/\∀ a∈d,0<=a/\a<T:=by
 unfold qX
 have hz:nJ (0:Int) (m:Int)=some (List.replicate m 0):=by unfold nJ;rw[if_pos ⟨xG,xG⟩];simp
 rw[hz,bnd_s,zO (x:=(m:Int) - 1) xG xG,bnd_s];obtain⟨r',j,d',h2,h3,h4⟩:=xRe (ρ:=List Int) hT m k (List.replicate m 0) N vK hm h0 h1 (λa ha=>by have:=Cg ha;omega) hN;rw[h2];exact⟨d',rfl,by rw[h3,Bv],h4⟩
theorem lI {α β ρ:Type} (d:List α) (g:α->β) {b:Nat->α->List β->Option (Ctl (List β) ρ)}
 (h1:∀ (i:Nat) x s,d[i]?=some x->s.length=i->b i x s=some (.go (s++[g x]))) :
 ∀ (r:List α) (i:Nat) (s:List β),d.drop i=r->s.length=i->oM b r i s=some (.nx (s++r.map g))
 | [],i,s,hr,hs=>vK
 | t::r,i,s,hr,hs=>by
  have ht:d[i]?=some t:=by rw[<- Ev,hr];rfl
  have hd:d.drop (i+1)=r:=by rw[<- Es,hr];rfl
  rw[vS (h1 i t s ht hs),lI d g h1 r (i+1) (s++[g t]) hd (by simp [hs])]
  simp
theorem xVe {T:Int} {m:Nat} (h0:0<=T) (h1:T<=1048576) (hm:1<=m/\m<=3) (hN:5<=N):∃ p,vO T (m:Int)=some p/\qQ N T (m:Int)=some p/\0<=p/\p<=1152921504606846976/\(T=0->p=0):=by
 obtain⟨M,rfl⟩:∃ M,N=M+5:=⟨N - 5,xG⟩;have b2:0<=T*T/\T*T<=1048576*1048576:=⟨Et h0 h0,Int.mul_le_mul h1 h1 h0 xG⟩;have b3:0<=T*T*T/\T*T*T<=1048576*1048576*1048576:=⟨Et b2.1 h0,Int.mul_le_mul b2.2 h1 h0 xG⟩;have c1:ck T=some T:=zO xG xG;have c2:ck (T*T)=some (T*T):=zO xG xG;have c3:ck (T*T*T)=some (T*T*T):=zO xG xG;have k1:ck 0=some 0:=kS;have k2:ck 1=some 1:=kS;have k3:ck 2=some 2:=kS
 match m,hm with
 | 1,_=>exact⟨T,by simp [vO,qU,c1],by simp [qQ,lF,c1,k1],xG,xG,λh=>h⟩
 | 2,_=>exact⟨T*T,by simp [vO,qU,c1,c2],by simp [qQ,lF,c1,c2,k1,k2],xG,xG,λh=>by rw[h];rfl⟩
 | 3,_=>exact⟨T*T*T,by simp [vO,qU,c1,c2,c3],by simp [qQ,lF,c1,c2,c3,k1,k2,k3],xG,xG,λh=>by rw[h];rfl⟩
theorem uX {α β σ ρ:Type} (g:α->β) {b:Nat->α->σ->Option (Ctl σ ρ)} {b':Nat->β->σ->Option (Ctl σ ρ)}:∀ (l:List α) (i:Nat) (s:σ),(∀ i x s,x∈l->b i x s=b' i (g x) s)->oM b l i s=oM b' (l.map g) i s
 | [],_,_,_=>rfl
 | x::l,i,s,h=>by
  have ih:=λs'=>uX g l (i+1) s' (λi y s hy=>h i y s (by simp [hy]));simp only[Dg,oM,h i x s vK]
  cases b' i (g x) s with
  | none=>rfl
  | some c=>cases c<;>simp only[ih]
theorem rU {β ρ:Type} {n:Nat} (g:Nat->β) {b:Nat->List β->Option (Ctl (List β) ρ)} (h1:∀ (i:Nat) s,i<n->s.length=i->b i s=some (.go (s++[g i]))):∀ (m k:Nat) (s:List β),s.length=k->k+m<=n->qU b m k s=some (.nx (s++(List.range' k m).map g))
 | 0,k,s,hs,_=>by simp [qU]
 | m+1,k,s,hs,hk=>by
  rw[zQ (h1 k s xG hs),rU g h1 m (k+1) (s++[g k]) (by simp [hs]) xG]
  simp [Dw]
theorem xPe {α β ρ:Type} {n:Nat} (g:Nat->β) {b:Nat->α->List β->Option (Ctl (List β) ρ)} (h1:∀ (i:Nat) x s,i<n->s.length=n->b i x s=some (.go (s.set i (g i)))):∀ (l:List α) (k:Nat) (s:List β),s.length=n->k+l.length<=n->∃ s',oM b l k s=some (.nx s')/\s'.length=n/\∀ j,s'[j]?=if k<=j/\j<k+l.length then some (g j) else s[j]?
 | [],k,s,hs,_=>⟨s,rfl,hs,λj=>by rw[if_neg vK]⟩
 | x::l,k,s,hs,hk=>by
  rw[Ao] at hk;obtain⟨s',h2,h3,h4⟩:=xPe g h1 l (k+1) (s.set k (g k)) (vV hs) xG;refine⟨s',by rw[vS (h1 k x s xG hs)];exact h2,h3,λj=>?_⟩;rw[h4 j,Ao,Fe]
  by_cases hj:k=j
  ·subst hj
   rw[if_neg xG,if_pos rfl,if_pos xG,if_pos xG]
  ·rw[if_neg hj]
   by_cases qa:k+1<=j/\j<k+1+l.length
   ·rw[if_pos qa,if_pos xG]
   ·rw[if_neg qa,if_neg xG]
theorem xQx {ρ ρ':Type} {f:Nat->Unit->Option (Ctl Unit ρ)} {g:Nat->Unit->Option (Ctl Unit ρ')} (Q:ρ->Prop) (Q':ρ'->Prop):∀ {m k:Nat},(∀ j,k<=j->j<k+m->(f j ()=some (.go ())/\g j ()=some (.go ()))∨∃ r r',f j ()=some (.ret r)/\g j ()=some (.ret r')/\Q r/\Q' r')->(qU f m k ()=some (.nx ())/\qU g m k ()=some (.nx ()))∨∃ r r',qU f m k ()=some (.ret r)/\qU g m k ()=some (.ret r')/\Q r/\Q' r'
 | 0,_,_=>.inl ⟨rfl,rfl⟩
 | m+1,k,h=>by
  rcases h k (Az _) xG with ⟨h1,h2⟩ | ⟨r,r',h1,h2,h3,h4⟩
  ·rw[zQ h1,zQ h2]
   exact xQx Q Q' (λj hj hj2=>h j xG xG)
  ·exact .inr ⟨r,r',lK h1,lK h2,h3,h4⟩
theorem xEk {ρ:Type} {f:Nat->Unit->Option (Ctl Unit ρ)}:∀ {m k:Nat},(∀ j,k<=j->j<k+m->f j ()=some (.go ()))->qU f m k ()=some (.nx ())
 | 0,_,_=>rfl
 | m+1,k,h=>by
  rw[zQ (h k (Az _) xG)];exact xEk (λj hj hj2=>h j xG xG)
def bJ (T:Nat) (l:List Int):Prop:=∀ a∈l,0<=a/\a<(T:Int)
def uC (T:Nat) (s:Int) (l:List Int):Int:=l.foldl (λa x=>a*(T:Int)+x) s
def kD (T:Nat) (l:List Int):Int:=uC T 0 l
theorem xFd {T:Nat}:∀ (l:List Int) (s:Int),1<=T->bJ T l->0<=s->0<=uC T s l/\s*((T ^ l.length:Nat):Int)<=uC T s l/\uC T s l<(s+1)*((T ^ l.length:Nat):Int)
 | [],s,hT,hb,h0=>by simp [uC];omega
 | x::l,s,hT,hb,h0=>by
  have hx:=hb x vK;have hsT:0<=s*(T:Int):=Et h0 xG;obtain⟨h1,h2,h3⟩:=xFd l (s*(T:Int)+x) hT (λa ha=>hb a (by simp [ha])) xG;have e:uC T s (x::l)=uC T (s*(T:Int)+x) l:=rfl;have hP:(0:Int)<=((T ^ l.length:Nat):Int):=xG
  have qa:((T ^ (x::l).length:Nat):Int)=(T:Int)*((T ^ l.length:Nat):Int):=by rw[Ao,Nat.pow_succ,Int.natCast_mul,Int.mul_comm]
  rw[e,qa];generalize ((T ^ l.length:Nat):Int)=P at *;refine⟨h1,?_,?_⟩
  ·have:s*((T:Int)*P)<=(s*(T:Int)+x)*P:=by rw[<- Int.mul_assoc,Int.add_mul];have:=Et hx.1 hP;omega
   omega
  ·have h4:(s*(T:Int)+x+1)*P<=((s+1)*(T:Int))*P:=Int.mul_le_mul_of_nonneg_right (by rw[Int.add_mul];omega) hP
   rw[Int.mul_assoc] at h4
   omega
theorem wX {ρ:Type} {T:Nat} (qc:1<=T/\T<=4):∀ (l:List Int) (k:Nat) (s:Int),bJ T l->0<=s->(s+1)*((T ^ l.length:Nat):Int)<=1000->
 oM (σ:=Int) (ρ:=ρ) (λk1 x1 s1=>xH (ck (s1*(T:Int))) λz1=>xH (ck (z1+x1)) λz2=>some (.go z2)) l k s=some (.nx (uC T s l))
 | [],_,_,_,_,_=>rfl
 | x::l,k,s,hb,h0,h1=>by
  have hx:=hb x vK
  have hP:(1:Int)<=((T ^ l.length:Nat):Int):=by have:=Nat.pow_pos (n:=l.length) (show 0<T by omega);omega
  have qd:((T ^ (x::l).length:Nat):Int)=(T:Int)*((T ^ l.length:Nat):Int):=by rw[Ao,Nat.pow_succ,Int.natCast_mul,Int.mul_comm]
  rw[qd] at h1;obtain⟨P,qa⟩:∃ P,P=((T ^ l.length:Nat):Int):=⟨_,rfl⟩;rw[<- qa] at hP h1;have hsT:0<=s*(T:Int):=Et h0 xG
  have h3:(s*(T:Int)+x+1)*P<=(s+1)*((T:Int)*P):=by
   have:(s*(T:Int)+x+1)*P<=((s+1)*(T:Int))*P:=Int.mul_le_mul_of_nonneg_right (by rw[Int.add_mul];omega) xG;rw[Int.mul_assoc] at this;exact this
  have h4:s*(T:Int)+x+1<=1000:=by
   have:(s*(T:Int)+x+1)*1<=(s*(T:Int)+x+1)*P:=Dt hP xG
   omega
  rw[vS (s':=s*(T:Int)+x) (by simp only[zO (x:=s*(T:Int)) xG xG,bnd_s,zO (x:=s*(T:Int)+x) xG xG])];exact wX qc l (k+1) (s*(T:Int)+x) (λa ha=>hb a (by simp [ha])) xG (by rw[<- qa];omega)
theorem pP {k:Nat} (qa:1<=T/\T<=4) (hk:k<5):1<=T ^ k/\T ^ k<=256:=by
 have h1:T ^ k<=4 ^ k:=Nat.pow_le_pow_left qa.2 k;have h2:4 ^ k<=4 ^ 4:=Nat.pow_le_pow_right xG xG;have h3:=Nat.pow_pos (n:=k) (show 0<T by omega);have h4:4 ^ 4=256:=rfl
 omega
theorem sT {l:List Int} (qa:1<=T/\T<=4) (h:bJ T l) (hl:l.length<5):aG (T:Int) l=some (kD T l)/\0<=kD T l/\kD T l<((T ^ l.length:Nat):Int):=by
 have hp:=pP qa hl;obtain⟨h1,h2,h3⟩:=xFd l 0 qa.1 h xG;refine⟨?_,h1,by simpa [kD] using h3⟩
 unfold aG
 rw[wX qa l 0 0 h xG xG]
 rfl
theorem xSu {T:Nat} (hT:1<=T):∀ (a b:List Int) (s:Int),bJ T a->bJ T b->a.length=b.length->0<=s->cO a b<0->uC T s a<uC T s b
 | [],[],s,_,_,_,_,h=>by simp [cO] at h
 | x::a,y::b,s,ha,hb,hl,h0,h=>by
  have hx:=ha x vK;have hy:=hb y vK;have hsT:0<=s*(T:Int):=Et h0 xG;have e1:uC T s (x::a)=uC T (s*(T:Int)+x) a:=rfl;have e2:uC T s (y::b)=uC T (s*(T:Int)+y) b:=rfl;rw[e1,e2];have qc:a.length=b.length:=vV hl;have ba:bJ T a:=λz hz=>ha z (by simp [hz]);have bb:bJ T b:=λz hz=>hb z (by simp [hz])
  unfold cO tR at h
  rcases Int.lt_trichotomy x y with qa | qa | qa
  ·have h1:=(xFd a (s*(T:Int)+x) hT ba xG).2.2
   have h2:=(xFd b (s*(T:Int)+y) hT bb xG).2.1;rw[qc] at h1;have h3:(s*(T:Int)+x+1)*((T ^ b.length:Nat):Int)<=(s*(T:Int)+y)*((T ^ b.length:Nat):Int):=Int.mul_le_mul_of_nonneg_right xG xG
   omega
  ·subst qa
   refine xSu hT a b _ ba bb qc xG ?_
   simpa using h
  ·exfalso
   have h1:¬ x<y:=xG
   simp [h1,qa] at h
theorem oEf {a b:List Int} (qa:1<=T/\T<=4) (ha:bJ T a) (hb:bJ T b) (hl:a.length=b.length) (h5:a.length<5) (h:cO a b<0):kD T a<kD T b:=xSu qa.1 a b 0 ha hb hl xG h
theorem xZt:∀ T:Nat,T<5->∀ n:Nat,n<5->1<=T->vO (T:Int) (n:Int)=some ((T ^ n:Nat):Int)/\qQ 10 (T:Int) (n:Int)=some ((T ^ n:Nat):Int):=by decide +kernel
theorem sX {n:Nat} (qa:1<=T/\T<=4) (hn:n<5) (hN:10<=N):vO (T:Int) (n:Int)=some ((T ^ n:Nat):Int)/\qQ N (T:Int) (n:Int)=some ((T ^ n:Nat):Int):=by
 have h:=xZt T xG n hn qa.1;exact⟨h.1,xDt h.2 hN⟩
theorem oKe {l:List Int} (hT4:1<=T/\T<=4) (h:bJ T l) (j:Nat):0<=l.getD j 0/\l.getD j 0<(T:Int):=by
 rw[Ap]
 rcases hj:l[j]? with _ | a
 ·simp;omega
 ·simpa using h a (Af hj)
theorem kP {l:List Int} {j:Nat} {a:Int} (h:l[j]?=some a):l.getD j 0=a:=by rw[Ap,h];rfl
def xLz (T:Nat) (l:List (List Int)) (s:List Bool):List Bool:=l.foldl (λs t=>s.set (kD T t).toNat true) s
theorem yL {T:Nat}:∀ (l:List (List Int)) (s:List Bool),(xLz T l s).length=s.length
 | [],_=>rfl
 | t::l,s=>by
  show(xLz T l (s.set (kD T t).toNat true)).length=s.length
  rw[yL l];simp
theorem xKh {T:Nat}:∀ (l:List (List Int)) (s:List Bool) (v:Nat),s[v]?=some true->(xLz T l s)[v]?=some true
 | [],_,_,h=>h
 | t::l,s,v,h=>by
  refine xKh l _ v ?_;rw[Fe]
  split
  ·have:(kD T t).toNat<s.length:=by have:=(Ac.1 h).1;omega
   simp_all
  ·exact h
theorem xPd {T:Nat}:∀ (l:List (List Int)) (s:List Bool) (t:List Int),t∈l->(kD T t).toNat<s.length->(xLz T l s)[(kD T t).toNat]?=some true
 | [],_,_,h,_=>by cases h
 | u::l,s,t,h,hl=>by
  rcases Av.1 h with rfl | h
  ·exact xKh l _ _ (by rw[Fe,if_pos rfl,if_pos hl])
  ·exact xPd l _ t h (vV hl)
theorem xBq {T:Nat} (qa:1<=T/\T<=4) {ρ:Type} {n:Nat} (hn:n<5):∀ (l:List (List Int)) (k:Nat) (s:List Bool),(∀ t∈l,bJ T t/\t.length=n)->s.length=T ^ n->
 oM (σ:=List Bool) (ρ:=ρ) (λk1 (x1:(List Int)) s1=>xH (aG (T:Int) x1) λz1=>xH (ix s1 z1) λz2=>some (.go (s1.set (z1).toNat true))) l k s=some (.nx (xLz T l s))
 | [],_,_,_,_=>rfl
 | t::l,k,s,h,hs=>by
  obtain⟨h1,h2⟩:=h t vK;obtain⟨c1,c2,c3⟩:=sT qa h1 xG;rw[h2] at c3
  have qc:(kD T t).toNat<s.length:=by rw[hs];omega
  have hx:ix s (kD T t)=some (s[(kD T t).toNat]'qc):=iU c2 (Aa qc);rw[vS (s':=s.set (kD T t).toNat true) (by simp only[c1,bnd_s,hx])];exact xBq qa hn l (k+1) _ (λu hu=>h u (by simp [hu])) (vV hs)
def col (fH:List (List Int)) (k:Nat):List Int:=fH.map λt=>t.getD k 0
def xQm (T:Nat) (o:Op) (fH:List (List Int)) (k:Nat):Int:=o.table.getD (kD T (col fH k)).toNat 0
def mkR (T:Nat) (o:Op) (fH:List (List Int)) (n:Nat):List Int:=(List.range' 0 n).map (xQm T o fH)
structure B9 (T:Nat) (o:Op) (m:Nat):Prop where
  ar:o.arity=m
  m1:1<=m
  m3:m<=3
  tl:o.table.length=T ^ m
  tb:bJ T o.table
theorem xCk (qa:1<=T/\T<=4) {fH:List (List Int)} {n:Nat} (h:∀ t∈fH,bJ T t/\t.length=n) (k:Nat):bJ T (col fH k):=by
 intro a ha;obtain⟨t,ht,rfl⟩:=Cy.1 ha;exact oKe qa (h t ht).1 k
theorem xTm (qc:1<=T/\T<=4) {o:Op} {m:Nat} (ho:B9 T o m) {fH:List (List Int)} {n:Nat} (h:∀ t∈fH,bJ T t/\t.length=n) (hm:fH.length=m) (k:Nat):aG (T:Int) (col fH k)=some (kD T (col fH k))/\ix o.table (kD T (col fH k))=some (xQm T o fH k)/\(0<=xQm T o fH k/\xQm T o fH k<(T:Int)):=by
 have hl:(col fH k).length=m:=by unfold col;rw[Bw,hm]
 obtain⟨c1,c2,c3⟩:=sT qc (xCk qc h k) (by have:=ho.m3;omega);rw[hl] at c3
 have qa:(kD T (col fH k)).toNat<o.table.length:=by rw[ho.tl];omega
 have hx:o.table[(kD T (col fH k)).toNat]?=some (o.table[(kD T (col fH k)).toNat]'qa):=Aa qa;have hv:xQm T o fH k=o.table[(kD T (col fH k)).toNat]'qa:=kP hx;refine⟨c1,?_,?_⟩
 ·rw[hv];exact iU c2 hx
 ·rw[hv];exact ho.tb _ (Bs qa)
theorem oDc (qd:1<=T/\T<=4) {o:Op} {m n:Nat} (ho:B9 T o m) (hn:n<=4) {fH:List (List Int)} (h:∀ t∈fH,bJ T t/\t.length=n) (hm:fH.length=m):pQ (T:Int) o fH=some (mkR T o fH n):=by
 have hm1:=ho.m1;have hm3:=ho.m3;have hx:fH[0]?=some (fH[0]'(xG)):=Aa xG;have qc:=(h _ (Af hx)).2;generalize fH[0]'(xG)=t0 at hx qc
 unfold pQ
 rw[show ix fH 0=some t0 from vD hx,bnd_s,qc,show((n:Nat):Int).toNat=n from by omega]
 rw[rU (n:=n) (xQm T o fH) (λi s hi hs=>by
  rw[lI fH (λt=>t.getD i 0) (λj x s2 hj hs2=>by
   have hxt:=h x (Af hj);have hjl:=(Ac.1 hj).1;have qa:x[i]?=some (x[i]'(xG)):=Aa xG;generalize x[i]'(xG)=y at qa
   simp only[vD qa,bnd_s,aC (l:=s2) (m:=[y]) (by simp;omega),kP qa]) fH 0 [] rfl rfl]
  obtain⟨v1,v2,v3⟩:=xTm qd ho h hm i
  unfold col at v1 v2
  simp only[thn_nx,Bp]
  unfold vE
  simp only[v1,bnd_s,v2,aC (l:=s) (m:=[xQm T o fH i]) (by simp;omega)]) n 0 [] rfl xG]
 rfl
theorem oFd (qc:1<=T/\T<=4) {o:Op} {m n:Nat} (ho:B9 T o m) (hn:n<=4) {fH:List (List Int)} (h:∀ t∈fH,bJ T t/\t.length=n) (hm:fH.length=m):yI (T:Int) o fH=some (mkR T o fH n):=by
 have hm1:=ho.m1;have hm3:=ho.m3;have hx:fH[0]?=some (fH[0]'(xG)):=Aa xG;have qe:=(h _ (Af hx)).2;generalize fH[0]'(xG)=t0 at hx qe
 have hz:nJ (0:Int) (n:Int)=some (List.replicate n 0):=by unfold nJ;rw[if_pos ⟨xG,xG⟩];simp
 unfold yI
 rw[show ix fH 0=some t0 from vD hx,bnd_s,qe,hz,bnd_s]
 obtain⟨s',h2,h3,h4⟩:=xPe (α:=Int) (ρ:=List Int) (n:=n) (xQm T o fH) (b:=λ(k1:Nat) (x1:Int) (s1:(List Int))=>qD (σ:=Int) (oM (λk2 (x2:(List Int)) s3=>xH (ck (s3*(T:Int))) λz1=>xH (ix x2 (k1:Int)) λz2=>xH (ck (z1+z2)) λz3=>some (.go z3)) fH 0 0) λs4=>xH (ix o.table s4) λz4=>xH (ix s1 (k1:Int)) λz5=>some (.go (s1.set ((k1:Int)).toNat z4))) (λi x s hi hs=>by
  obtain⟨v1,v2,v3⟩:=xTm qc ho h hm i
  have hcl:(col fH i).length<=3:=by unfold col;rw[Bw];omega
  have hp:((0:Int)+1)*((T ^ (col fH i).length:Nat):Int)<=1000:=by
   have:=pP qc (k:=(col fH i).length) xG
   omega
  have qf:s[i]?=some (s[i]'(xG)):=Aa xG;generalize s[i]'(xG)=y at qf
  rw[uX (λt=>t.getD i 0) (b':=λ(k3:Nat) (x3:Int) (s5:Int)=>xH (ck (s5*(T:Int))) λz6=>xH (ck (z6+x3)) λz7=>some (.go z7)) fH 0 0 (λj t s2 ht=>by
   have hxt:=h t ht;have qd:t[i]?=some (t[i]'(xG)):=Aa xG;generalize t[i]'(xG)=y at qd
   simp only[vD qd,bnd_s,kP qd])]
  have qa:=wX qc (ρ:=(Ctl ((List Int)) (List Int))) (col fH i) 0 0 (xCk qc h i) xG hp
  unfold col at qa
  rw[qa];have v2':ix o.table (uC T 0 (List.map (λt=>t.getD i 0) fH))=some (xQm T o fH i):=v2
  simp only[thn_nx,v2',bnd_s,vD qf,Ad]) (List.replicate n 0) 0 (List.replicate n 0) vK vK
 rw[h2,thn_nx]
 congr 1
 apply Cr
 intro j;rw[h4 j]
 unfold mkR
 by_cases hj:j<n
 ·rw[if_pos (by simp;omega),Bc,List.getElem?_range' hj]
  simp
 ·rw[if_neg (by simp;omega),Ce (by simp;omega),Ce (by simp;omega)]
def FB (T N : Nat) (x1 : Op) (x2 : Rel) (S : List Bool) (k1 : Nat) (s : Unit) : Option (Ctl Unit ((List (List Int)) × (List Int) × Bool)) := match s with
      | _=>xH (zJ N (x2.tuples.length:Int) x1.arity (k1:Int)) λz1=>qD (σ:=List (List Int)) (oM (λk2 (x3:Int) s1=>xH (ix x2.tuples x3) λz2=>xH (ap s1 ([z2])) λz3=>some (.go z3)) z1 0 []) λs2=>xH (pQ (T:Int) x1 s2) λz4=>xH (aG (T:Int) z4) λz5=>xH (ix S z5) λz6=>if (!z6) then qD (σ:=List (List Int)) (oM (λk3 (x4:(List Int)) s3=>xH (kF x4) λz7=>xH (ap s3 ([z7])) λz8=>some (.go z8)) s2 0 []) λs4=>some (.ret (s4,z4,true)) else some (.go ())
def GB (T N : Nat) (x1 : Op) (x2 : Rel) (S : List Bool) (k1 : Nat) (s : Unit) : Option (Ctl Unit ((List (List Int)) × (List Int))) := match s with
        | _=>xH (qX N (x2.tuples.length:Int) x1.arity (k1:Int)) λz1=>qD (σ:=List (List Int)) (oM (λk2 (x3:Int) s1=>xH (ix x2.tuples x3) λz2=>xH (ap s1 ([z2])) λz3=>some (.go z3)) z1 0 []) λs2=>xH (yI (T:Int) (Op.mk x1.arity x1.table) s2) λz4=>xH (fG (T:Int) z4) λz5=>xH (ix S z5) λz6=>if (!z6) then xH (nev z4) λz7=>some (.ret (s2,z4)) else some (.go ())
theorem oIc (qa:1<=T/\T<=4) {o:Op} {m n:Nat} (ho:B9 T o m) {fH:List (List Int)} (h:∀ t∈fH,bJ T t/\t.length=n) (hm:fH.length=m):bJ T (mkR T o fH n)/\(mkR T o fH n).length=n:=by
 refine⟨λa ha=>?_,by unfold mkR;simp⟩
 unfold mkR at ha
 obtain⟨k,_,rfl⟩:=Cy.1 ha;exact(xTm qa ho h hm k).2.2
theorem xGi (qd:1<=T/\T<=4) {o:Op} {x:Rel} {m n k:Nat} {S:List Bool} (hN:10<=N) (ho:B9 T o m) (hn:1<=n/\n<=4) (hT:∀ t∈x.tuples,bJ T t/\t.length=n) (h1:1<=x.tuples.length) (hk:(k:Int)<=9223372036854775807) (hS:S.length=T ^ n) :
 ∃ (R:List Int) (b:Bool) (e fH:List (List Int)),FB T N o x S k ()=some (if b then .go () else .ret (e,R,true))/\GB T N o x S k ()=some (if b then .go () else .ret (fH,R))/\R≠[]/\0<=kD T R/\kD T R<((T ^ n:Nat):Int)/\S[(kD T R).toNat]?=some b:=by
 have hm1:=ho.m1;have hm3:=ho.m3;obtain⟨d,d1,d2,d3⟩:=xDu (T:=(x.tuples.length:Int)) (k:=(k:Int)) (m:=m) (N:=N) xG xG xG hk xG
 let fH:=d.map λv=>x.tuples.getD v.toNat []
 have qf:∀ v∈d,ix x.tuples v=some (x.tuples.getD v.toNat []):=λv hv=>by
  have:=d3 v hv;have qa:v.toNat<x.tuples.length:=xG;have he:x.tuples[v.toNat]?=some (x.tuples[v.toNat]'qa):=Aa qa;rw[Ap,he];exact iU this.1 he
 have qc:∀ t∈fH,bJ T t/\t.length=n:=λt ht=>by
  obtain⟨v,hv,rfl⟩:=Cy.1 ht;have:=d3 v hv;have qa:v.toNat<x.tuples.length:=xG;have he:x.tuples[v.toNat]?=some (x.tuples[v.toNat]'qa):=Aa qa;rw[Ap,he];exact hT _ (Bs qa)
 have qe:fH.length=m:=by show(d.map _).length=m;rw[Bw,d2]
 obtain⟨r1,r2⟩:=oIc qd ho qc qe;obtain⟨c1,c2,c3⟩:=sT qd r1 xG;rw[r2] at c3
 have qa:(kD T (mkR T o fH n)).toNat<S.length:=by rw[hS];omega
 have hx:S[(kD T (mkR T o fH n)).toNat]?=some (S[(kD T (mkR T o fH n)).toNat]'qa):=Aa qa;generalize S[(kD T (mkR T o fH n)).toNat]'qa=b at hx
 have qg:mkR T o fH n≠[]:=λh=>by rw[h] at r2;simp at r2;omega
 have e1:=lI (ρ:=(Ctl (Unit) ((List (List Int))×(List Int)×Bool))) d (λv=>x.tuples.getD v.toNat []) (b:=λ(k1:Nat) (x1:Int) (s1:(List (List Int))) =>xH (ix x.tuples x1) λz1=>xH (ap s1 ([z1])) λz2=>some (.go z2))
  (λi v s hi hs=>by
   have qh:=(Ac.1 hi).1
   simp only[bnd_s,qf v (Af hi),aC (l:=s) (m:=[x.tuples.getD v.toNat []]) (by simp;omega)]) d 0 [] rfl rfl
 have e2:=lI (ρ:=(Ctl (Unit) ((List (List Int))×(List Int)×Bool))) fH (λt=>t) (b:=λ(k2:Nat) (x2:(List Int)) (s2:(List (List Int))) =>xH (kF x2) λz3=>xH (ap s2 ([z3])) λz4=>some (.go z4))
  (λi t s hi hs=>by
   have qh:=(Ac.1 hi).1;have ht:=qc t (Af hi)
   have qi:kF t=some t:=by unfold kF;rw[aC (by simp;omega)];rfl
   simp only[bnd_s,qi,aC (l:=s) (m:=[t]) (by simp;omega)]) fH 0 [] rfl rfl
 refine⟨mkR T o fH n,b,[]++fH.map (λt=>t),fH,?_,?_,qg,c2,c3,hx⟩
 ·unfold FB
  simp only[xOa,ho.ar,d1,bnd_s];rw[e1];simp only[thn_nx];rw[show[]++List.map (λv=>x.tuples.getD v.toNat []) d=fH from Bp _];simp only[oDc qd ho hn.2 qc qe,bnd_s,c1,iU c2 hx]
  cases b with
  | true=>rfl
  | false=>
   simp only[Co,if_true];rw[e2]
   rfl
 ·unfold GB
  simp only[ho.ar,d1,bnd_s]
  rw[lI d (λv=>x.tuples.getD v.toNat []) (λi v s hi hs=>by
   have qh:=(Ac.1 hi).1
   simp only[qf v (Af hi),bnd_s,aC (l:=s) (m:=[x.tuples.getD v.toNat []]) (by simp;omega)]) d 0 [] rfl rfl]
  simp only[thn_nx];rw[show[]++List.map (λv=>x.tuples.getD v.toNat []) d=fH from Bp _];rw[show Op.mk (m:Int) o.table=o by rw[<- ho.ar]];simp only[oFd qd ho hn.2 qc qe,bnd_s,xDq,c1,iU c2 hx]
  cases b with
  | true=>rfl
  | false=>
   have qj:nev (mkR T o fH n)=some ():=by
    cases h:mkR T o fH n with
    | nil=>exact(qg h).elim
    | cons a l=>rfl
   simp only[Co,if_true,qj,bnd_s]
   rfl
theorem oBo (qa:1<=T/\T<=4) {o:Op} {x:Rel} {m n:Nat} (hN:10<=N) (ho:B9 T o m) (har:x.arity=n) (hn:1<=n/\n<=4) (hT:∀ t∈x.tuples,bJ T t/\t.length=n) (hlen:x.tuples.length<=1048576)
 (hs:∀ j t u,x.tuples[j]?=some t->x.tuples[j+1]?=some u->cO t u<0):∃ b,kT N (T:Int) o x=some b/\eM N (T:Int) o x=some b:=by
 obtain⟨n',rfl⟩:∃ n',n=n'+1:=⟨n - 1,xG⟩;have qm:=ho.m1;have qn:=ho.m3;obtain⟨p1,p2⟩:=sX qa (n:=n'+1) (N:=N) xG hN;rw[Int.natCast_add,Int.natCast_one] at p1 p2;have qd:x.arity=(n':Int)+1:=xG;have h16:T ^ (n'+1)<=256:=(pP qa xG).2;obtain⟨S,qf⟩:∃ S,S=xLz T x.tuples (List.replicate (T ^ (n'+1)) false):=⟨_,rfl⟩
 have qj:S.length=T ^ (n'+1):=by rw[qf,yL,Bv]
 have hz:nJ (false:Bool) ((T ^ (n'+1):Nat):Int)=some (List.replicate (T ^ (n'+1)) false):=by
  unfold nJ
  rw[if_pos ⟨xG,xG⟩,Ad]
 have qh:dT N (T:Int) x=some ((T:Int),(n':Int)+1,S):=by
  unfold dT rI
  rw[qd,p2,bnd_s,hz,bnd_s,bnd_s];rw[xBq qa (n:=n'+1) xG x.tuples 0 _ hT (by rw[Bv]),thn_nx,<- qf]
 obtain⟨p,q1,q2,q3,q4,q5⟩:=xVe (T:=(x.tuples.length:Int)) (m:=m) (N:=N) xG xG ⟨qm,qn⟩ xG
 have hF:nP N (T:Int) o x=qD (qU (FB T N o x S) p.toNat 0 ()) (λ_=>some ([],[],false)):=by
  unfold nP
  rw[qh,bnd_s,show qQ N (x.tuples.length:Int) o.arity=some p by rw[ho.ar];exact q2,bnd_s]
  rfl
 have qk:∀ k,k<0+p.toNat->1<=x.tuples.length/\(k:Int)<=9223372036854775807:=λk hk=>by
  refine⟨?_,xG⟩
  rcases Nat.eq_zero_or_pos x.tuples.length with h | h
  ·have:=q5 xG;omega
  ·exact h
 by_cases qc:(x.tuples.length:Int)=((T ^ (n'+1):Nat):Int)
 ·have hfull':x.tuples.length=T ^ (n'+1):=xG
  have qi:∀ v,v<T ^ (n'+1)->S[v]?=some true:=by
   have qe:∀ j,j<T ^ (n'+1)->x.tuples[j]?=some (x.tuples.getD j []):=λj hj=>by
    have:x.tuples[j]?=some (x.tuples[j]'(xG)):=Aa xG;rw[Ap,this];rfl
   have qg:∀ j,j<T ^ (n'+1)->0<=kD T (x.tuples.getD j [])/\kD T (x.tuples.getD j [])<((T ^ (n'+1):Nat):Int):=λj hj=>by
    obtain⟨b1,b2⟩:=hT _ (Af (qe j hj));have:=sT qa b1 xG;rw[b2] at this;exact this.2
   have hr:=oIh (T:=T ^ (n'+1)) (λj=>(kD T (x.tuples.getD j [])).toNat) (λj hj=>by
    obtain⟨b1,b2⟩:=hT _ (Af (qe j xG));obtain⟨d1,d2⟩:=hT _ (Af (qe (j+1) hj));have h1:=oEf qa b1 d1 xG xG (hs j _ _ (qe j xG) (qe (j+1) hj));have h2:=qg j xG;have h3:=qg (j+1) hj
    show(kD T (x.tuples.getD j [])).toNat<(kD T (x.tuples.getD (j+1) [])).toNat
    omega) (λj hj=>by
    have:=qg j hj
    show(kD T (x.tuples.getD j [])).toNat<_
    omega)
   intro v hv
   have h1:=xPd (T:=T) x.tuples (List.replicate (T ^ (n'+1)) false) _ (Af (qe v hv)) (by
    rw[Bv];have:=qg v hv
    omega)
   rw[show(kD T (x.tuples.getD v [])).toNat=v from hr v hv,<- qf] at h1;exact h1
  have qo:qU (FB T N o x S) p.toNat 0 ()=some (.nx ()):=xEk (λk qp hk=>by
   obtain⟨r1,r2⟩:=qk k hk;obtain⟨R,b,e,fH,e1,e2,e3,e4,e5,e6⟩:=xGi qa (N:=N) (k:=k) hN ho hn hT r1 r2 qj;rw[qi _ xG] at e6;rw[e1,<- Option.some.inj e6]
   rfl)
  refine⟨true,?_,?_⟩
  ·unfold kT
   rw[hF,qo]
   rfl
  ·unfold eM nB
   rw[show(Rel.mk x.arity x.tuples)=x from rfl,qd,p1,bnd_s];rw[if_pos (vV qc)]
   rfl
 ·have hG:nB N (T:Int) o x=qD (qU (GB T N o x S) p.toNat 0 ()) (λ_=>some ([],[])):=by
   unfold nB
   rw[qd,p1,bnd_s,if_neg (vV qc),hz,bnd_s];rw[xDq,xBq qa (n:=n'+1) xG x.tuples 0 _ hT (by rw[Bv]),thn_nx,<- qf];rw[show vO (x.tuples.length:Int) o.arity=some p by rw[ho.ar];exact q1,bnd_s]
   rfl
  have ql:nB N (T:Int) (Op.mk o.arity o.table) (Rel.mk x.arity x.tuples)=qD (qU (GB T N o x S) p.toNat 0 ()) (λ_=>some ([],[])):=hG
  rcases xQx (f:=FB T N o x S) (g:=GB T N o x S) (m:=p.toNat) (k:=0) (λr=>r.2.2=true) (λr=>r.2≠[]) (λk qp hk=>by
   obtain⟨r1,r2⟩:=qk k hk;obtain⟨R,b,e,fH,e1,e2,e3,e4,e5,e6⟩:=xGi qa (N:=N) (k:=k) hN ho hn hT r1 r2 qj
   cases b with
   | true=>exact .inl ⟨e1,e2⟩
   | false=>exact .inr ⟨_,_,e1,e2,rfl,e3⟩) with ⟨h1,h2⟩ | ⟨r,r',h1,h2,h3,h4⟩
  ·refine⟨true,?_,?_⟩
   ·unfold kT;rw[hF,h1];rfl
   ·unfold eM;rw[ql,h2];rfl
  ·refine⟨false,?_,?_⟩
   ·unfold kT
    rw[hF,h1]
    show xH (some r) _=_
    simp [h3]
   ·unfold eM
    rw[ql,h2]
    show xH (some r') _=_
    simp [h4]
end
section
variable {T:Nat} {N:Nat} {vs:List Int}
theorem xHe {u:A6} {c:Con} (hu:TV T u) (h:CW u vs.length c) (hN:1100<=N):cL u c vs=some (xDx u vs c)/\eL N c u vs=some (!xDx u vs c):=by
 obtain⟨⟨h1,r,r0,r1,r2,r3⟩,h2⟩:=h;have e1:=xKc (vs:=vs) h1 xG;have e2:=xWh (vs:=vs) h1 xG;obtain⟨m,_,_,_,qa,_⟩:=hu.r r r2
 have hg:u.rels.getD c.rel.toNat default=r:=by rw[Ap,r1];rfl
 have qc:=iU r0 r1
 unfold cL eL xDx
 rw[qc,bnd_s,bnd_s,e1,bnd_s,e2,bnd_s,hg];refine⟨?_,?_⟩
 ·rw[xHv,bnd_s]
 ·have:=xQb (N:=N) (r:=r) (t:=atV vs c.scope) qa (by have:=(hu.r r r2).len hu.t;omega) xG
  rw[this,bnd_s]
theorem xXl {α:Type} (l:List α) (p:α->Bool) (f:α->Option Bool) (hf:∀ x∈l,f x=some (p x)):∃ i:Int,qD (oM (σ:=Unit) (ρ:=Int) (λk (x:α) s=>match s with | _=>xH (f x) λz=>if (!z) then some (.ret ((k:Int))) else some (.go ())) l 0 ()) (λ_=>some (-1))=some i/\decide (0<=i)=l.any (λx=>!p x):=by
 obtain⟨i,h1,h2⟩:=uJ l (λx=>!p x) (λx=>xH (f x) λz=>some (!z)) (λx hx=>by rw[hf x hx];rfl);refine⟨i,?_,h2⟩;rw[<- h1]
 congr 2
 funext k x s
 show xH (f x) _=xH (xH (f x) _) _
 cases f x<;>rfl
theorem xSv {u:A6} {y:A7} (hu:TV T u) (h:∀ c∈y.cons,CW u vs.length c) (hN:1100<=N):∃ i j,dG u y vs=some i/\nR N u y vs=some j/\decide (0<=i)=y.cons.any (λc=>!xDx u vs c)/\decide (0<=j)=y.cons.any (λc=>!xDx u vs c):=by
 obtain⟨i,h1,h2⟩:=xXl y.cons (xDx u vs) (λc=>cL u c vs) (λc hc=>(xHe hu (h c hc) hN).1);obtain⟨j,k1,k2⟩:=uJ y.cons (λc=>!xDx u vs c) (λc=>eL N c u vs) (λc hc=>(xHe hu (h c hc) hN).2);refine⟨i,j,h1,?_,h2,k2⟩
 unfold nR aO
 have e:eL N=λa=>eL N a:=rfl;rw[k1,bnd_s]
theorem xSq.bits {r:Rel} (h:xSq T r):∃ n:Nat,r.arity=(n:Int)/\(1<=n/\n<=4)/\∀ t∈r.tuples,bJ T t/\t.length=n:=by
 obtain⟨n,h1,h2,h3,_,h5⟩:=h;refine⟨n,h1,⟨h2,h3⟩,λt ht=>?_⟩;obtain⟨h6,h7⟩:=cC.1 (h5 t ht);exact⟨h7,h6⟩
theorem oGz {m:Nat} {r:Rel} {o:Op} (hN:10<=N) (qa:1<=T/\T<=4) (hr:xSq T r) (ho:B9 T o m):∃ b,kT N (T:Int) o r=some b/\eM N (T:Int) o r=some b:=by
 obtain⟨n,h1,h2,h3⟩:=hr.bits;have hl:=hr.len qa;obtain⟨_,_,_,_,ha,_⟩:=hr;exact oBo qa hN ho h1 h2 h3 xG (λj t u ht hu=>ha.lt (Nat.lt_succ_self j) ht hu)
def fS (N T:Nat) (o:Op) (r:Rel):Bool:=(eM N (T:Int) o r).getD false
theorem xHs {m:Nat} {r:Rel} {o:Op} (hN:10<=N) (qa:1<=T/\T<=4) (hr:xSq T r) (ho:B9 T o m):kT N (T:Int) o r=some (fS N T o r)/\eM N (T:Int) o r=some (fS N T o r):=by
 obtain⟨b,h1,h2⟩:=oGz hN qa hr ho
 unfold fS
 rw[h2];exact⟨h1,rfl⟩
theorem xHi {α:Type} (l:List α) (p:α->Bool) (f:α->Option Bool) (hf:∀ x∈l,f x=some (p x)):qD (oM (σ:=Unit) (ρ:=Int) (λk (x:α) s=>match s with | _=>xH (f x) λz=>if z then some (.ret ((k:Int))) else some (.go ())) l 0 ()) (λ_=>some (-1))=some (match fnd (λk x=>if p x then some (k:Int) else none) l 0 with | some i=>i | none=>-1)/\(l.any p=true↔∃ i:Nat,fnd (λk x=>if p x then some (k:Int) else none) l 0=some (i:Int))/\(l.any p=false↔fnd (λk x=>if p x then some (k:Int) else none) l 0=none):=by
 refine⟨?_,?_⟩
 ·rw[cR (λk x=>if p x then some (k:Int) else none) (λj x hj=>by
   simp only[hf x (Af hj),bnd_s]
   by_cases hv:p x=true
   ·simp [hv,xAu]
   ·simp [hv,xAu])]
  cases fnd (λk x=>if p x then some (k:Int) else none) l 0<;>rfl
 ·have key:∀ (l:List α) (k:Nat),(l.any p=true/\∃ i:Nat,fnd (λk x=>if p x then some (k:Int) else none) l k=some (i:Int))∨(l.any p=false/\fnd (λk x=>if p x then some (k:Int) else none) l k=none):=by
   intro l
   induction l with
   | nil=>intro k;exact .inr ⟨rfl,rfl⟩
   | cons x l ih=>
    intro k
    unfold fnd
    by_cases hv:p x=true
    ·exact .inl ⟨by simp [hv],k,by simp [hv]⟩
    ·have qa:p x=false:=vV hv
     rcases ih (k+1) with ⟨h1,h2⟩ | ⟨h1,h2⟩
     ·exact .inl ⟨by simp [h1],by simpa [qa] using h2⟩
     ·exact .inr ⟨by simp [qa,h1],by simpa [qa] using h2⟩
  rcases key l 0 with ⟨h1,h2⟩ | ⟨h1,h2⟩
  ·obtain⟨i,hi⟩:=h2
   exact⟨⟨λ_=>⟨i,hi⟩,λ_=>h1⟩,⟨λh=>(by rw[h1] at h;cases h),λh=>(by rw[hi] at h;cases h)⟩⟩
  ·exact⟨⟨λh=>(by rw[h1] at h;cases h),λ⟨i,h⟩=>(by rw[h2] at h;cases h)⟩,⟨λ_=>h2,λ_=>h1⟩⟩
theorem xMj {m:Nat} {u:A6} {o:Op} (hN:10<=N) (hu:TV T u) (ho:B9 T o m):∃ z:Int,bC N u o=some z/\(z == -1)=u.rels.all (fS N T o)/\cP N u o=some (u.rels.all (fS N T o)):=by
 have hs:=hu.s;obtain⟨k1,k2,k3⟩:=xHi u.rels (λr=>!fS N T o r) (λr=>xH (kT N u.size o r) λz=>some (!z)) (λr hr=>by rw[hs,(xHs hN hu.t (hu.r r hr) ho).1];rfl)
 obtain⟨j1,j2,j3⟩:=xHi u.rels (λr=>!fS N T o r) (λr=>gK N r (A6.mk u.size u.rels) (Op.mk o.arity o.table)) (λr hr=>by
  unfold gK
  rw[hs,(xHs hN hu.t (hu.r r hr) ho).2];rfl)
 have qa:u.rels.all (fS N T o) = !u.rels.any (λr=>!fS N T o r):=by rw[List.not_any_eq_all_not];simp
 have hf:bC N u o=some (match fnd (λk x=>if (!fS N T o x)=true then some (k:Int) else none) u.rels 0 with | some i=>i | none=>-1):=by
  unfold bC
  rw[<- k1]
  congr 2
  funext k x s
  show xH (kT N u.size o x) _=xH (xH (kT N u.size o x) _) _
  cases kT N u.size o x<;>rfl
 refine⟨_,hf,?_,?_⟩
 ·rw[qa]
  cases h:u.rels.any (λr=>!fS N T o r) with
  | true=>obtain⟨i,hi⟩:=k2.1 h;rw[hi];simp<;>omega
  | false=>rw[k3.1 h];rfl
 ·unfold cP rA aQ
  rw[j1,bnd_s,bnd_s,qa]
  congr 1
  cases h:u.rels.any (λr=>!fS N T o r) with
  | true=>obtain⟨i,hi⟩:=j2.1 h;rw[hi];simp<;>omega
  | false=>rw[j3.1 h];rfl
theorem xWe {u:A6} {y:A7} (hu:TV T u) (h:∀ c∈y.cons,CW u vs.length c) (hN:1100<=N):∃ a,dG u y vs=some a/\(!(a == -1))=y.cons.any (λc=>!xDx u vs c):=by
 obtain⟨k1,k2,k3⟩:=xHi y.cons (λc=>!xDx u vs c) (λc=>xH (cL u c vs) λz=>some (!z)) (λc hc=>by rw[(xHe hu (h c hc) hN).1];rfl)
 have hf:dG u y vs=some (match fnd (λk x=>if (!xDx u vs x)=true then some (k:Int) else none) y.cons 0 with | some i=>i | none=>-1):=by
  unfold dG
  rw[<- k1]
  congr 2
  funext k x s
  show xH (cL u x vs) _=xH (xH (cL u x vs) _) _
  cases cL u x vs<;>rfl
 refine⟨_,hf,?_⟩
 ·cases h:y.cons.any (λc=>!xDx u vs c) with
  | true=>obtain⟨i,hi⟩:=k2.1 h;rw[hi];simp<;>omega
  | false=>rw[k3.1 h];rfl
def nK (T:Nat) (v:Int):Op:=⟨1,List.replicate T v⟩
theorem xVh {v:Int} (hv:0<=v/\v<(T:Int)):B9 T (nK T v) 1:=⟨rfl,xG,xG,by simp [nK],λa ha=>by rw[Cg ha];exact hv⟩
theorem xRr {ρ:Type} {v:Int}:∀ (m N:Nat) (s:List Int),m<N->s.length+m<=1000->lF (σ:=Int×(List Int)) (ρ:=ρ) (λs =>match s with | (s1,s2)=>if (decide (0<s1)) then xH (ap s2 ([v])) λz1=>xH (ck (s1 - 1)) λz2=>some (.go (z2,z1)) else some (.brk (s1,s2))) N ((m:Int),s)=some (.nx (0,s++List.replicate m v))
 | 0,N,s,hN,hs=>by
  obtain⟨M,rfl⟩:∃ M,N=M+1:=⟨N - 1,xG⟩;rw[bU (s':=(0,s)) (by rfl)]
  simp
 | m+1,N,s,hN,hs=>by
  obtain⟨M,rfl⟩:∃ M,N=M+1:=⟨N - 1,xG⟩
  rw[eF (s':=((m:Int),s++[v])) (by
   have h0:(0:Int)<((m+1:Nat):Int):=xG;simp only[h0,decide_true,if_true,aC (l:=s) (m:=[v]) (by simp;omega),bnd_s,zO (x:=((m+1:Nat):Int) - 1) xG xG]
   rw[show((m+1:Nat):Int) - 1=(m:Int) by omega])]
  rw[xRr m M (s++[v]) xG (by simp;omega),Dl]
  rfl
theorem xRg {v:Int} (hN:10<=N) (qa:1<=T/\T<=4) (hv:0<=v/\v<(T:Int)):bW N (T:Int) 1 v=some (nK T v,0):=by
 have hs:okS (T:Int)=true:=by simp [okS];omega
 have hp:qQ N (T:Int) 1=some ((T ^ 1:Nat):Int):=(sX qa (n:=1) xG hN).2
 unfold bW dU
 rw[xEe,bnd_s,hs];simp only[Br,Ah,if_false];rw[dN,bnd_s,zO (x:=(T:Int) - 1) xG xG];simp only[bnd_s,dN];have e1:(decide ((1:Int)<=1) && decide ((1:Int)<=3))=true:=rfl
 have e2:(decide (0<=v) && decide (v<=(T:Int) - 1))=true:=by simp;omega
 simp only[e1,e2,Br,Ah,if_false,thn_nx];rw[hp,bnd_s,xRr (T ^ 1) N [] (by simp;omega) (by simp;omega)]
 simp [thn_nx,nK]
theorem xRy {v:Int} (hN:10<=N) (qa:1<=T/\T<=4):cK N (T:Int) 1 v=some (nK T v):=by
 have hp:vO (T:Int) 1=some ((T ^ 1:Nat):Int):=(sX (N:=N) qa (n:=1) xG hN).1
 unfold cK yG
 rw[hp,bnd_s,Ad]
 rw[rU (n:=T ^ 1) (λ_=>v) (λi s hi hs=>by
  obtain⟨d,h1,_⟩:=xDu (T:=(T:Int)) (k:=(i:Int)) (m:=1) (N:=N) xG xG xG (by simp at hi;omega) xG;have qc:qX N (T:Int) 1 (i:Int)=some d:=h1
  simp only[qc,bnd_s,sH,aC (l:=s) (m:=[v]) (by simp at hi ⊢;omega)]) (T ^ 1) 0 [] rfl vK]
 simp [thn_nx,nK,List.map_const']
theorem oFf {T:Nat} {x:A7} (hv:1<=x.vars/\x.vars<=10) (v:Int):qP [v] x.vars=some (List.replicate x.vars.toNat v):=by
 unfold qP
 rw[if_pos ⟨rfl,xG,xG⟩]
 rfl
def VB (v:A9):Prop:=v.values.length<=1000/\v.arcs.length<=1000/\v.pairs.length<=1000/\v.numbers.length<=1000
theorem VB.nil {k:Int}:VB (A9.mk k [] [] [] []):=⟨Bi _,Bi _,Bi _,Bi _⟩
theorem VB.vals {k:Int} {l:List Int} (h:l.length<=1000):VB (A9.mk k l [] [] []):=⟨h,Bi _,Bi _,Bi _⟩
theorem xKe {t:A6} {x:A7} {v:Int} (hN:1100<=N) (ht:lV t) (hi:sO t x=true) (hT:t.size=(T:Int)) (hv:0<=v/\v<(T:Int)):∃ r,cQ N t x v=some r/\fB N t x v=some r/\(r.2=0->r.1.kind=0)/\VB r.1:=by
 obtain⟨iv,il,ic⟩:=xJm hi
 have qe:lT t=true:=by
  have:=hi;unfold sO at this;simp only[Be] at this;exact this.1
 have hu:=xMl ht qe;rw[hT,Ad] at hu;have qf:=xVh (T:=T) hv;obtain⟨z,k1,k2,k3⟩:=xMj (N:=N) xG hu qf;obtain⟨i1,i2⟩:=xGc (t:=t) (x:=x) ht;have qc:=hu.t;have i1':lD (A6.mk t.size t.rels) (A7.mk x.vars x.cons)=some (sO t x):=i1;have i2':aN (A6.mk t.size t.rels) (A7.mk x.vars x.cons)=some (sO t x):=i2;have k1':bC N (A6.mk t.size t.rels) (Op.mk (nK T v).arity (nK T v).table)=some z:=k1;have k3':cP N (A6.mk t.size t.rels) (Op.mk (nK T v).arity (nK T v).table)=some (t.rels.all (fS N T (nK T v))):=k3
 have qd:∀ c∈x.cons,CW t (List.replicate x.vars.toNat v).length c:=λc hc=>by
  have:=oKo hu (ic c hc);rw[Bv,show((x.vars.toNat:Nat):Int)=x.vars by omega];exact this
 obtain⟨a,f1,f3⟩:=xWe (N:=N) hu qd hN;obtain⟨_,b,_,f2,_,f4⟩:=xSv (N:=N) (u:=t) (vs:=List.replicate x.vars.toNat v) (y:=x) hu qd hN;have f1':dG (A6.mk t.size t.rels) (A7.mk x.vars x.cons) (List.replicate x.vars.toNat v)=some a:=f1;have f2':nR N (A6.mk t.size t.rels) (A7.mk x.vars x.cons) (List.replicate x.vars.toNat v)=some b:=f2
 have hl:cQ N t x v=some (if t.rels.all (fS N T (nK T v)) then (if x.cons.any (λc=>!xDx t (List.replicate x.vars.toNat v) c) then (A9.mk 0 [] [] [] [],6) else (A9.mk 0 (List.replicate x.vars.toNat v) [] [] [],0)) else (A9.mk 0 [] [] [] [],4)):=by
  unfold cQ
  rw[i1',bnd_s,hi];simp only[Br,Ah,if_false];rw[hT,zO (x:=(T:Int) - 1) xG xG,bnd_s,dN,bnd_s]
  have e2:(decide (0<=v) && decide (v<=(T:Int) - 1))=true:=by simp;omega
  rw[e2,xRg xG qc hv,bnd_s];rw[<- hT,k1',bnd_s]
  have hz:(z != -1) = !t.rels.all (fS N T (nK T v)):=by rw[<- k2];rfl
  rw[hz]
  by_cases hk:t.rels.all (fS N T (nK T v))=true
  ·rw[hk]
   simp only[Br,Ah,if_false,if_true];rw[rU (n:=x.vars.toNat) (λ_=>v) (λi s hi hs=>by rw[aC (l:=s) (m:=[v]) (by simp;omega),bnd_s]) x.vars.toNat 0 [] rfl xG];rw[thn_nx,Bp,List.map_const',List.length_range',f1',bnd_s]
   have ha:(a != -1)=x.cons.any (λc=>!xDx t (List.replicate x.vars.toNat v) c):=by rw[<- f3];rfl
   rw[ha]
   cases x.cons.any (λc=>!xDx t (List.replicate x.vars.toNat v) c)<;>rfl
  ·have qa:t.rels.all (fS N T (nK T v))=false:=vV hk
   rw[qa];rfl
 refine⟨_,hl,?_,?_,?_⟩
 ·unfold fB
  rw[i2',bnd_s,hi];simp only[Br,Ah,if_false];rw[hT,xOk xG,bnd_s]
  have e2:okV (T:Int) v=true:=by simp [okV];omega
  rw[e2,xRy (N:=N) xG qc,bnd_s,<- hT,k3',bnd_s]
  by_cases hk:t.rels.all (fS N T (nK T v))=true
  ·rw[hk]
   simp only[Br,Ah,if_false,if_true];rw[oFf (T:=T) iv,bnd_s,f2',bnd_s,f4]
   cases x.cons.any (λc=>!xDx t (List.replicate x.vars.toNat v) c)<;>rfl
  ·have qa:t.rels.all (fS N T (nK T v))=false:=vV hk
   rw[qa];rfl
 ·intro _
  split
  ·split<;>rfl
  ·rfl
 ·split
  ·split
   ·exact VB.nil
   ·exact VB.vals (by rw[Bv];omega)
  ·exact VB.nil
end
section
variable {T:Nat} {P:Prop}
theorem xMc {α:Type} (x:Option α):xH x (λz=>Option.some z)=x:=by cases x<;>rfl
def eH (o:Option Bool) (P:Prop):Prop:=(P/\o=some true)∨(¬ P/\o=some false)
theorem eH.eq {a b:Option Bool} (h:eH a P) (h':eH b P):a=b:=by
 rcases h with ⟨p,rfl⟩ | ⟨p,rfl⟩<;>rcases h' with ⟨q,rfl⟩ | ⟨q,rfl⟩<;>first | rfl | exact absurd p q | exact absurd q p
theorem eH.of {a:Option Bool} {Q:Prop} (h:eH a P) (e:P↔Q):eH a Q:=by rwa [eH,<- e]
theorem eH.some {a:Option Bool} (h:eH a P):∃ b,a=Option.some b/\(b=true↔P):=by
 rcases h with ⟨p,rfl⟩ | ⟨p,rfl⟩
 ·exact⟨true,rfl,by simp [p]⟩
 ·exact⟨false,rfl,by simp [p]⟩
theorem eH.beq {a b:Int}:eH (Option.some (a==b)) (a=b):=by
 by_cases h:a=b
 ·exact .inl ⟨h,by simp [h]⟩
 ·exact .inr ⟨h,by simp [h]⟩
theorem xRt {ρ:Type} {r:ρ} {b:Nat->Unit->Option (Ctl Unit ρ)} (p:Nat->Prop):∀ {n k:Nat},(∀ j,k<=j->j<k+n->(p j/\b j ()=some (.go ()))∨(¬ p j/\b j ()=some (.ret r)))->((∀ j,k<=j->j<k+n->p j)/\qU b n k ()=some (.nx ()))∨((¬ ∀ j,k<=j->j<k+n->p j)/\qU b n k ()=some (.ret r))
 | 0,k,_=>.inl ⟨λj h1 h2=>xG,rfl⟩
 | n+1,k,h=>by
  rcases h k (Az _) xG with ⟨h1,h2⟩ | ⟨h1,h2⟩
  ·rw[zQ h2]
   rcases xRt p (n:=n) (k:=k+1) (λj hj qa=>h j xG xG) with ⟨h3,h4⟩ | ⟨h3,h4⟩
   ·refine .inl ⟨λj hj qa=>?_,h4⟩
    by_cases e:j=k
    ·exact e ▸ h1
    ·exact h3 j xG xG
   ·exact .inr ⟨λha=>h3 λj hj qa=>ha j xG xG,h4⟩
  ·exact .inr ⟨λha=>h1 (ha k (Az _) xG),lK h2⟩
theorem xBs {ρ:Type} {r:ρ} {n:Nat} {b:Nat->Unit->Option (Ctl Unit ρ)} (p:Nat->Prop) (h:∀ j,j<n->(p j/\b j ()=some (.go ()))∨(¬ p j/\b j ()=some (.ret r))):((∀ j,j<n->p j)/\qU b n 0 ()=some (.nx ()))∨((¬ ∀ j,j<n->p j)/\qU b n 0 ()=some (.ret r)):=by
 rcases xRt (k:=0) (n:=n) p (λj _ hj=>h j xG) with ⟨h1,h2⟩ | ⟨h1,h2⟩
 ·exact .inl ⟨λj hj=>h1 j (Bi _) xG,h2⟩
 ·exact .inr ⟨λha=>h1 λj _ hj=>ha j xG,h2⟩
theorem xRm {α ρ:Type} {r:ρ} {b:Nat->α->Unit->Option (Ctl Unit ρ)} (p:Nat->Prop):∀ {l:List α} {k:Nat},(∀ j x,l[j]?=some x->(p (k+j)/\b (k+j) x ()=some (.go ()))∨(¬ p (k+j)/\b (k+j) x ()=some (.ret r)))->
 ((∀ j,j<l.length->p (k+j))/\oM b l k ()=some (.nx ()))∨((¬ ∀ j,j<l.length->p (k+j))/\oM b l k ()=some (.ret r))
 | [],k,_=>.inl ⟨λj h1=>absurd h1 (Nat.not_lt_zero _),rfl⟩
 | x::l,k,h=>by
  have h0:=h 0 x rfl;rw[Cd] at h0
  rcases h0 with ⟨h1,h2⟩ | ⟨h1,h2⟩
  ·rw[vS h2]
   rcases xRm p (l:=l) (k:=k+1) (λj y hy=>by rw[show k+1+j=k+(j+1) by omega];exact h (j+1) y hy) with ⟨h3,h4⟩ | ⟨h3,h4⟩
   ·refine .inl ⟨λj hj=>?_,h4⟩
    rcases j with _ | j
    ·exact h1
    ·have:=h3 j (vV hj);rwa [show k+1+j=k+(j+1) by omega] at this
   ·exact .inr ⟨λha=>h3 λj hj=>by have:=ha (j+1) (vV hj);rwa [show k+(j+1)=k+1+j by omega] at this,h4⟩
  ·exact .inr ⟨λha=>h1 (ha 0 vK),fE h2⟩
theorem yA {x:Option (Out Unit Bool)} (h:(P/\x=some (.nx ()))∨(¬ P/\x=some (.ret false))):eH (qD x λ_=>some true) P:=by
 rcases h with ⟨p,rfl⟩ | ⟨p,rfl⟩
 ·exact .inl ⟨p,rfl⟩
 ·exact .inr ⟨p,rfl⟩
def dig (T m k:Nat):List Int:=(List.range' 0 m).map λi=>((k / T ^ (m - 1 - i) % T:Nat):Int)
set_option synthInstance.maxHeartbeats 400000 in
set_option synthInstance.maxSize 1000 in
theorem oJt:∀ T:Nat,T<5->∀ m:Nat,m<4->∀ k:Nat,k<T ^ m->1<=T->1<=m->qX 10 (T:Int) (m:Int) (k:Int)=some (dig T m k)/\(dig T m k).length=m/\((dig T m k).all λa=>decide (0<=a) && decide (a<(T:Int)))=true/\kD T (dig T m k)=(k:Int):=by decide +kernel
theorem uD {m k N:Nat} (qa:1<=T/\T<=4) (hm:1<=m/\m<=3) (hk:k<T ^ m) (hN:10<=N):qX N (T:Int) (m:Int) (k:Int)=some (dig T m k)/\(dig T m k).length=m/\bJ T (dig T m k)/\kD T (dig T m k)=(k:Int):=by
 have h:=oJt T xG m xG k hk qa.1 hm.1;exact⟨xBf h.1 hN,h.2.1,λa ha=>by have:=Cm.1 h.2.2.1 a ha;simpa using this,h.2.2.2⟩
theorem rM:zJ=qX:=rfl
theorem oKz:∀ T:Nat,T<5->∀ a:Nat,a<T->a<T ^ 1/\dig T 1 a=[(a:Int)]:=by decide +kernel
theorem oKg:∀ T:Nat,T<5->∀ a:Nat,a<T->∀ b:Nat,b<T->a*T+b<T ^ 2/\dig T 2 (a*T+b)=[(a:Int),(b:Int)]:=by decide +kernel
theorem oLk:∀ T:Nat,T<5->∀ a:Nat,a<T->∀ b:Nat,b<T->∀ c:Nat,c<T->(a*T+b)*T+c<T ^ 3/\dig T 3 ((a*T+b)*T+c)=[(a:Int),(b:Int),(c:Int)]:=by decide +kernel
theorem oMq:∀ T:Nat,T<5->∀ k:Nat,k<T ^ 1->∃ a:Nat,a<T/\dig T 1 k=[(a:Int)]:=by decide +kernel
theorem oFs:∀ T:Nat,T<5->∀ k:Nat,k<T ^ 2->∃ a:Nat,a<T/\∃ b:Nat,b<T/\dig T 2 k=[(a:Int),(b:Int)]:=by decide +kernel
theorem oIx:∀ T:Nat,T<5->∀ k:Nat,k<T ^ 3->∃ a:Nat,a<T/\∃ b:Nat,b<T/\∃ c:Nat,c<T/\dig T 3 k=[(a:Int),(b:Int),(c:Int)]:=by decide +kernel
theorem all1 (hT4:T<=4) (p:List Int->Prop):(∀ k,k<T ^ 1->p (dig T 1 k))↔∀ a:Nat,a<T->p [(a:Int)]:=by
 refine⟨λh a ha=>?_,λh k hk=>?_⟩
 ·have:=oKz T xG a ha;rw[<- this.2];exact h _ this.1
 ·obtain⟨a,ha,e⟩:=oMq T xG k hk;rw[e];exact h a ha
theorem oHv (hT4:T<=4) (p:List Int->Prop):(∀ k,k<T ^ 2->p (dig T 2 k))↔∀ a:Nat,a<T->∀ b:Nat,b<T->p [(a:Int),(b:Int)]:=by
 refine⟨λh a ha b hb=>?_,λh k hk=>?_⟩
 ·have:=oKg T xG a ha b hb;rw[<- this.2];exact h _ this.1
 ·obtain⟨a,ha,b,hb,e⟩:=oFs T xG k hk;rw[e];exact h a ha b hb
theorem oLw (hT4:T<=4) (p:List Int->Prop):(∀ k,k<T ^ 3->p (dig T 3 k))↔∀ a:Nat,a<T->∀ b:Nat,b<T->∀ c:Nat,c<T->p [(a:Int),(b:Int),(c:Int)]:=by
 refine⟨λh a ha b hb c hc=>?_,λh k hk=>?_⟩
 ·have:=oLk T xG a ha b hb c hc;rw[<- this.2];exact h _ this.1
 ·obtain⟨a,ha,b,hb,c,hc,e⟩:=oIx T xG k hk;rw[e];exact h a ha b hb c hc
def V (T:Nat) (o:Op) (l:List Int):Int:=o.table.getD (kD T l).toNat 0
theorem eU (qc:1<=T/\T<=4) {o:Op} {m:Nat} (ho:B9 T o m) {l:List Int} (hb:bJ T l) (hl:l.length=m):aW o (T:Int) l=some (V T o l)/\vE (T:Int) o l=some (V T o l)/\0<=V T o l/\V T o l<(T:Int):=by
 obtain⟨c1,c2,c3⟩:=sT qc hb (by have:=ho.m3;omega);rw[hl] at c3
 have qa:(kD T l).toNat<o.table.length:=by rw[ho.tl];omega
 have hx:o.table[(kD T l).toNat]?=some (o.table[(kD T l).toNat]'qa):=Aa qa;have hv:V T o l=o.table[(kD T l).toNat]'qa:=kP hx
 have h1:vE (T:Int) o l=some (V T o l):=by
  unfold vE
  rw[c1,bnd_s,iU c2 hx,bnd_s,hv]
 refine⟨h1,h1,?_⟩;rw[hv];exact ho.tb _ (Bs qa)
theorem pE {m N:Nat} (qa:1<=T/\T<=4) (hm:1<=m/\m<=3) (hN:10<=N) {f:List Int->Option Bool} (p:List Int->Prop) (hf:∀ k,k<T ^ m->eH (f (dig T m k)) (p (dig T m k))):eH (aR N (T:Int) (m:Int) f) (∀ k,k<T ^ m->p (dig T m k)):=by
 unfold aR
 rw[(sX qa xG hN).1,bnd_s,Ad];refine yA (xBs (λk=>p (dig T m k)) λk hk=>?_);rw[(uD qa hm hk hN).1,bnd_s]
 rcases hf k hk with ⟨h1,h2⟩ | ⟨h1,h2⟩
 ·exact .inl ⟨h1,by rw[h2];rfl⟩
 ·exact .inr ⟨h1,by rw[h2];rfl⟩
theorem xHp {a:Nat} {l:List Int} (ha:a<T) (h:bJ T l):bJ T ((a:Int)::l):=by
 intro x hx
 rcases Av.1 hx with rfl | hx
 ·omega
 ·exact h x hx
theorem oAp:bJ T []:=λ_ h=>by cases h
def oJb (T m:Nat) (o:Op):Prop:=∀ v:Nat,v<T->V T o (List.replicate m (v:Int))=(v:Int)
theorem xSj {m v:Nat} (hv:v<T):bJ T (List.replicate m (v:Int)):=λx hx=>by have:=Cg hx;omega
theorem oKt {m N:Nat} (qa:1<=T/\T<=4) {o:Op} (ho:B9 T o m) (hN:11<=N):eH (zR N (T:Int) o 3) (oJb T m o):=by
 obtain⟨M,rfl⟩:∃ M,N=M+1:=⟨N - 1,xG⟩;have e:zR (M+1) (T:Int) o 3=xH (aR M (T:Int) 1 (λa0=>rH a0 o (T:Int))) λz=>some z:=rfl;rw[e,xMc];refine(pE (m:=1) qa xG xG (λl=>V T o (List.replicate m (l.getD 0 0))=l.getD 0 0) λk hk=>?_).of (all1 qa.2 (λl=>V T o (List.replicate m (l.getD 0 0))=l.getD 0 0));obtain⟨a,ha,e⟩:=oMq T xG k hk;rw[e]
 have hr:qP [(a:Int)] o.arity=some (List.replicate m (a:Int)):=by
  unfold qP
  rw[ho.ar,if_pos ⟨rfl,xG,by have:=ho.m3;omega⟩]
  rfl
 unfold rH
 rw[show ix [(a:Int)] 0=some (a:Int) from rfl,bnd_s,hr,bnd_s,(eU qa ho (xSj ha) vK).1,bnd_s];exact eH.beq
theorem xWl {m:Nat} (qa:1<=T/\T<=4) {o:Op} (ho:B9 T o m):eH (cE (T:Int) o) (oJb T m o):=by
 unfold cE
 rw[Ad];refine yA (xBs (λv=>V T o (List.replicate m (v:Int))=(v:Int)) λv hv=>?_)
 have hl:∀ n k (s:List Int),s.length+n<=1000->qU (σ:=List Int) (ρ:=Ctl (Unit) Bool) (λk1 s1=>xH (ap s1 ([(v:Int)])) λz1=>some (.go z1)) n k s=some (.nx (s++List.replicate n (v:Int))):=by
  intro n
  induction n with
  | zero=>intro k s _;simp [qU]
  | succ n ih=>
   intro k s hs;rw[zQ (s':=s++[(v:Int)]) (by rw[aC (by simp;omega),bnd_s]),ih (k+1) _ (by simp;omega),Dl]
   simp [Dk]
 have qc:=hl o.arity.toNat 0 [] (by rw[ho.ar];have:=ho.m3;simp;omega)
 have e:o.arity.toNat=m:=by rw[ho.ar];simp
 simp only[qc,thn_nx,Bp];rw[e,(eU qa ho (xSj hv) vK).2.1,bnd_s]
 by_cases h:V T o (List.replicate m (v:Int))=(v:Int)
 ·exact .inl ⟨h,by simp [h]⟩
 ·exact .inr ⟨h,by simp [h]⟩
end
section
variable {T:Nat} {N:Nat}
theorem rS {a b:Nat} (ha:a<T) (hb:b<T):bJ T [(a:Int),(b:Int)]:=xHp ha (xHp hb oAp)
theorem xOx {a b c:Nat} (ha:a<T) (hb:b<T) (hc:c<T):bJ T [(a:Int),(b:Int),(c:Int)]:=xHp ha (rS hb hc)
theorem oKy (a b:Int):zZ [a,b]=some (if a<=b then [a,b] else [b,a]):=by
 unfold zZ
 rw[if_pos vK]
 by_cases h:a<=b
 ·simp [List.mergeSort,List.merge,h]
 ·simp [List.mergeSort,List.merge,h]
def oEt (T:Nat) (o:Op):Prop:=∀ a:Nat,a<T->∀ b:Nat,b<T->V T o [(a:Int),(b:Int)]=V T o [(b:Int),(a:Int)]
theorem xXr (qa:1<=T/\T<=4) {o:Op} (ho:B9 T o 2) (hN:11<=N):eH (eD N (T:Int) o) (oEt T o):=by
 unfold eD
 rw[xMc,ho.ar];refine(pE (m:=2) qa xG xG (λl=>V T o l=V T o (if l.getD 0 0<=l.getD 1 0 then [l.getD 0 0,l.getD 1 0] else [l.getD 1 0,l.getD 0 0])) λk hk=>?_).of ((oHv qa.2 (λl=>V T o l=V T o (if l.getD 0 0<=l.getD 1 0 then [l.getD 0 0,l.getD 1 0] else [l.getD 1 0,l.getD 0 0]))).trans ?_)
 ·obtain⟨a,ha,b,hb,e⟩:=oFs T xG k hk
  rw[e]
  have hs:aW o (T:Int) (if (a:Int)<=b then [(a:Int),(b:Int)] else [(b:Int),(a:Int)])=some (V T o (if (a:Int)<=b then [(a:Int),(b:Int)] else [(b:Int),(a:Int)])):=by
   split
   ·exact(eU qa ho (rS ha hb) rfl).1
   ·exact(eU qa ho (rS hb ha) rfl).1
  unfold mU
  rw[show oV [(a:Int),(b:Int)]=some [(a:Int),(b:Int)] by unfold oV;rw[aC vK,bnd_s];rfl,bnd_s,oKy,bnd_s];rw[show Op.mk ((2:Nat):Int) o.table=o by rw[<- ho.ar],(eU qa ho (rS ha hb) rfl).1,bnd_s,hs,bnd_s];exact eH.beq
 ·refine⟨λh a ha b hb=>?_,λh a ha b hb=>?_⟩
  ·rcases Nat.le_total a b with qc | qc
   ·have:=h b hb a ha
    by_cases e:a=b
    ·rw[e]
    ·simp only[Di,Dr] at this
     rw[if_neg xG] at this;exact this.symm
   ·have:=h a ha b hb
    by_cases e:a=b
    ·rw[e]
    ·simp only[Di,Dr] at this
     rw[if_neg xG] at this;exact this
  ·simp only[Di,Dr]
   split
   ·rfl
   ·exact h a ha b hb
theorem xWo (qc:1<=T/\T<=4) {o:Op} (ho:B9 T o 2) (hN:11<=N):eH (bS N (T:Int) o) (oEt T o):=by
 unfold bS
 rw[ho.ar]
 have key:((∀ j,j<o.table.length->V T o (dig T 2 j)=V T o [(dig T 2 j).getD 1 0,(dig T 2 j).getD 0 0]))↔oEt T o:=by
  rw[ho.tl];exact oHv qc.2 (λl=>V T o l=V T o [l.getD 1 0,l.getD 0 0])
 refine eH.of (yA ?_) key
 have:=xRm (ρ:=Bool) (r:=false) (l:=o.table) (k:=0) (λj=>V T o (dig T 2 j)=V T o [(dig T 2 j).getD 1 0,(dig T 2 j).getD 0 0]) (b:=λ(k1:Nat) (x1:Int) (s:Unit)=>match s with | _=>xH (zJ N (T:Int) ((2:Nat):Int) (k1:Int)) λz1=>qD (σ:=Int) (lF (λs1=>xH (ck (s1+1)) λz2=>if (decide (z2<((2:Nat):Int))) then xH (kF z1) λz3=>xH (ix z1 z2) λz4=>xH (ix z3 s1) λz5=>xH (ix z1 s1) λz6=>xH (ix (z3.set (s1).toNat z4) z2) λz7=>xH (vE (T:Int) o ((z3.set (s1).toNat z4).set (z2).toNat z6)) λz8=>if (z8 != x1) then some (.ret (.ret false)) else some (.go z2) else some (.brk s1)) N 0) λs2=>some (.go ())) (λj x hx=>by
  rw[Bn];have hj:=(Ac.1 hx).1;rw[ho.tl] at hj;obtain⟨a,ha,b,hb,e⟩:=oFs T xG j hj;have hd:=uD (N:=N) qc (m:=2) xG hj xG
  have hv:V T o (dig T 2 j)=x:=by unfold V;rw[hd.2.2.2,Ad];exact kP hx
  rw[hv];rw[rM,hd.1];simp only[bnd_s];rw[e];obtain⟨M,rfl⟩:∃ M,N=M+1+1:=⟨N - 2,xG⟩
  have qd:kF [(a:Int),(b:Int)]=some [(a:Int),(b:Int)]:=by unfold kF;rw[aC vK,bnd_s];rfl
  simp only[Di,Dr];have qa:=(eU qc ho (rS hb ha) rfl).2.1
  by_cases h:V T o [(b:Int),(a:Int)]=x
  ·refine .inl ⟨h.symm,?_⟩
   rw[eF (s':=1) (by
    simp only[show ck ((0:Int)+1)=some 1 from rfl,bnd_s,qd,show ix [(a:Int),(b:Int)] 1=some (b:Int) from rfl,show ix [(a:Int),(b:Int)] 0=some (a:Int) from rfl];rw[if_pos kS];simp only[show ix (List.set [(a:Int),(b:Int)] (0:Int).toNat (b:Int)) 1=some (b:Int) from rfl,bnd_s,show(List.set [(a:Int),(b:Int)] (0:Int).toNat (b:Int)).set (1:Int).toNat (a:Int)=[(b:Int),(a:Int)] from rfl,qa]
    rw[h];simp)]
   rw[bU (by
    simp only[show ck ((1:Int)+1)=some 2 from rfl,bnd_s]
    rw[if_neg kS])]
   rfl
  ·refine .inr ⟨λh'=>h h'.symm,?_⟩
   rw[wP (r:=Ctl.ret false) (by
    simp only[show ck ((0:Int)+1)=some 1 from rfl,bnd_s,qd,show ix [(a:Int),(b:Int)] 1=some (b:Int) from rfl,show ix [(a:Int),(b:Int)] 0=some (a:Int) from rfl];rw[if_pos kS];simp only[show ix (List.set [(a:Int),(b:Int)] (0:Int).toNat (b:Int)) 1=some (b:Int) from rfl,bnd_s,show(List.set [(a:Int),(b:Int)] (0:Int).toNat (b:Int)).set (1:Int).toNat (a:Int)=[(b:Int),(a:Int)] from rfl,qa]
    rw[if_pos (by simp [h])])]
   rfl)
 simp only[Bn] at this;exact this
def xZm (T:Nat) (o:Op):Prop:=∀ a:Nat,a<T->∀ b:Nat,b<T->∀ c:Nat,c<T->V T o [V T o [(a:Int),(b:Int)],(c:Int)]=V T o [(a:Int),V T o [(b:Int),(c:Int)]]
theorem xJt {m:Nat} (qa:1<=T/\T<=4) {o:Op} (ho:B9 T o m) {l:List Int} (hb:bJ T l) (hl:l.length=m):∃ v:Nat,v<T/\V T o l=(v:Int):=by
 obtain⟨_,_,h1,h2⟩:=eU qa ho hb hl;exact⟨(V T o l).toNat,xG,xG⟩
theorem xUl (qa:1<=T/\T<=4) {o:Op} (ho:B9 T o 2) (hN:11<=N):eH (aR N (T:Int) 3 (λa0=>mJ a0 o (T:Int))) (xZm T o):=by
 refine(pE (m:=3) qa xG xG (λl=>V T o [V T o [l.getD 0 0,l.getD 1 0],l.getD 2 0]=V T o [l.getD 0 0,V T o [l.getD 1 0,l.getD 2 0]]) λk hk=>?_).of (oLw qa.2 (λl=>V T o [V T o [l.getD 0 0,l.getD 1 0],l.getD 2 0]=V T o [l.getD 0 0,V T o [l.getD 1 0,l.getD 2 0]]));obtain⟨a,ha,b,hb,c,hc,e⟩:=oIx T xG k hk;obtain⟨v,hv,ev⟩:=xJt qa ho (rS ha hb) rfl;obtain⟨w,hw,ew⟩:=xJt qa ho (rS hb hc) rfl;rw[e]
 unfold mJ
 simp only[show ix [(a:Int),(b:Int),(c:Int)] 0=some (a:Int) from rfl,show ix [(a:Int),(b:Int),(c:Int)] 1=some (b:Int) from rfl,show ix [(a:Int),(b:Int),(c:Int)] 2=some (c:Int) from rfl,bnd_s,(eU qa ho (rS ha hb) rfl).1,(eU qa ho (rS hb hc) rfl).1,Di,Dr,ev,ew,(eU qa ho (rS hv hc) rfl).1,(eU qa ho (rS ha hw) rfl).1];exact eH.beq
theorem xTh (qa:1<=T/\T<=4) {o:Op} (ho:B9 T o 2) (hN:11<=N):eH (dK N (T:Int) o) (xZm T o):=by
 unfold dK
 rw[show((3:Int))=((3:Nat):Int) from rfl,(sX qa xG xG).2,bnd_s,Ad];refine eH.of (yA (xBs (λk=>(λl:List Int=>V T o [V T o [l.getD 0 0,l.getD 1 0],l.getD 2 0]=V T o [l.getD 0 0,V T o [l.getD 1 0,l.getD 2 0]]) (dig T 3 k)) λk hk=>?_)) (oLw qa.2 (λl=>V T o [V T o [l.getD 0 0,l.getD 1 0],l.getD 2 0]=V T o [l.getD 0 0,V T o [l.getD 1 0,l.getD 2 0]]));obtain⟨a,ha,b,hb,c,hc,e⟩:=oIx T xG k hk;obtain⟨v,hv,ev⟩:=xJt qa ho (rS ha hb) rfl;obtain⟨w,hw,ew⟩:=xJt qa ho (rS hb hc) rfl;have hd:=uD (N:=N) qa (m:=3) xG hk xG;rw[rM,hd.1,e];simp only[bnd_s,show sl [(a:Int),(b:Int),(c:Int)] 0 2=some [(a:Int),(b:Int)] from rfl,show sl [(a:Int),(b:Int),(c:Int)] 1 (([(a:Int),(b:Int),(c:Int)].length:Nat):Int)=some [(b:Int),(c:Int)] from rfl,show ix [(a:Int),(b:Int),(c:Int)] 0=some (a:Int) from rfl,show ix [(a:Int),(b:Int),(c:Int)] 2=some (c:Int) from rfl,(eU qa ho (rS ha hb) rfl).2.1,(eU qa ho (rS hb hc) rfl).2.1,Di,Dr,ev,ew,(eU qa ho (rS hv hc) rfl).2.1,(eU qa ho (rS ha hw) rfl).2.1]
 by_cases h:V T o [(v:Int),(c:Int)]=V T o [(a:Int),(w:Int)]
 ·exact .inl ⟨h,by simp [h]⟩
 ·exact .inr ⟨h,by simp [h]⟩
end
section
variable {N:Nat} {T:Nat}
def K6 (T m:Nat) (o:Op):Prop:=m=2/\oEt T o/\oJb T m o/\xZm T o
theorem xEl {m:Nat} (qa:1<=T/\T<=4) {o:Op} (ho:B9 T o m) (hN:13<=N):eH (zR N (T:Int) o 6) (K6 T m o):=by
  obtain⟨M,rfl⟩:∃ M,N=M+1+1:=⟨N - 2,xG⟩
  have e : zR (M + 1 + 1) (T : Int) o 6 = qD (σ := Bool) (xH (zR (M+1) (T:Int) o 3) λz1=>if z1 then  xH (zR (M+1) (T:Int) o 5) λz2=>if z2 then  xH (aR (M+1) (T:Int) 3 (λa0=>mJ a0 o (T:Int))) λz64=>some (.nx z64) else  some (.nx false) else  some (.nx false)) λs3=>
        some s3:=rfl
  have e5 : zR (M + 1) (T : Int) o 5 = qD (σ := Bool) (if (o.arity==2) then  xH (eD M (T:Int) o) λz3=>some (.nx z3) else  some (.nx false)) λs4=>
       some s4:=rfl
  rw[e]
  rcases oKt (N:=M+1) qa ho xG with ⟨i1,i2⟩ | ⟨i1,i2⟩
  · rw[i2,bnd_s,if_pos rfl,e5]
    by_cases hm:m=2
    · subst hm
      rw[if_pos (by rw[ho.ar];rfl)]
      rcases xXr (N:=M) qa ho xG with ⟨s1,s2⟩ | ⟨s1,s2⟩
      · rw[s2]
        simp only[bnd_s,thn_nx,if_true]
        rcases xUl (N:=M+1) qa ho xG with ⟨a1,a2⟩ | ⟨a1,a2⟩
        · rw[a2];exact .inl ⟨⟨rfl,s1,i1,a1⟩,rfl⟩
        · rw[a2];exact .inr ⟨λh=>a1 h.2.2.2,rfl⟩
      · rw[s2];exact .inr ⟨λh=>s1 h.2.1,rfl⟩
    · rw[if_neg (by rw[ho.ar];simp;omega)]
      exact .inr ⟨λh=>hm h.1,rfl⟩
  · rw[i2];exact .inr ⟨λh=>i1 h.2.2.1,rfl⟩
theorem xMf {m:Nat} (qa:1<=T/\T<=4) {o:Op} (ho:B9 T o m) (hN:13<=N):eH (bR N (T:Int) o 6) (K6 T m o):=by
  have e : bR N (T : Int) o 6 = qD (σ := Bool) (if (o.arity==2) then  xH (bS N (T:Int) o) λz1=>if z1 then  xH (cE (T:Int) o) λz64=>if z64 then  xH (dK N (T:Int) o) λz2=>some (.nx z2) else  some (.nx false) else  some (.nx false) else  some (.nx false)) λs3=>
       some s3:=rfl
  rw[e]
  by_cases hm:m=2
  · subst hm
    rw[if_pos (by rw[ho.ar];rfl)]
    rcases xWo (N:=N) qa ho xG with ⟨s1,s2⟩ | ⟨s1,s2⟩
    · rw[s2,bnd_s,if_pos rfl]
      rcases xWl qa ho with ⟨i1,i2⟩ | ⟨i1,i2⟩
      · rw[i2,bnd_s,if_pos rfl]
        rcases xTh (N:=N) qa ho xG with ⟨a1,a2⟩ | ⟨a1,a2⟩
        · rw[a2];exact .inl ⟨⟨rfl,s1,i1,a1⟩,rfl⟩
        · rw[a2];exact .inr ⟨λh=>a1 h.2.2.2,rfl⟩
      · rw[i2];exact .inr ⟨λh=>i1 h.2.2.1,rfl⟩
    · rw[s2];exact .inr ⟨λh=>s1 h.2.1,rfl⟩
  · rw[if_neg (by rw[ho.ar];simp;omega)]
    exact .inr ⟨λh=>hm h.1,rfl⟩
def Maj (T:Nat) (o:Op):Prop:=∀ a:Nat,a<T->∀ b:Nat,b<T->V T o [(a:Int),(a:Int),(b:Int)]=(a:Int)/\V T o [(b:Int),(a:Int),(a:Int)]=(a:Int)/\V T o [(a:Int),(b:Int),(a:Int)]=(a:Int)
def K7 (T m:Nat) (o:Op):Prop:=m=3/\Maj T o
theorem xEr {m:Nat} (qa:1<=T/\T<=4) {o:Op} (ho:B9 T o m) (hN:13<=N):eH (zR N (T:Int) o 7) (K7 T m o):=by
 obtain⟨M,rfl⟩:∃ M,N=M+1:=⟨N - 1,xG⟩;have e:zR (M+1) (T:Int) o 7=xH (pL M (T:Int) o) λz1=>some z1:=rfl;rw[e,xMc]
 unfold pL
 by_cases hm:m=3
 ·subst hm
  rw[if_pos (by rw[ho.ar];rfl)]
  have:=(pE (m:=2) (N:=M) (f:=λa0=>eE a0 o (T:Int)) qa xG xG (λl=>V T o [l.getD 0 0,l.getD 0 0,l.getD 1 0]=l.getD 0 0/\V T o [l.getD 1 0,l.getD 0 0,l.getD 0 0]=l.getD 0 0/\V T o [l.getD 0 0,l.getD 1 0,l.getD 0 0]=l.getD 0 0) λk hk=>by
   obtain⟨a,ha,b,hb,e⟩:=oFs T xG k hk;rw[e]
   unfold eE wK
   simp only[show ix [(a:Int),(b:Int)] 0=some (a:Int) from rfl,show ix [(a:Int),(b:Int)] 1=some (b:Int) from rfl,bnd_s,(eU qa ho (xOx ha ha hb) rfl).1,(eU qa ho (xOx ha hb ha) rfl).1,(eU qa ho (xOx hb ha ha) rfl).1,Di,Dr];have h0:decide ((0:Int)<=(a:Int))=true:=vK;rw[show(3:Int).toNat=3 from rfl]
   by_cases g1:V T o [(a:Int),(a:Int),(b:Int)]=(a:Int)
   ·by_cases g2:V T o [(a:Int),(b:Int),(a:Int)]=(a:Int)
    ·by_cases g3:V T o [(b:Int),(a:Int),(a:Int)]=(a:Int)
     ·refine .inl ⟨⟨g1,g3,g2⟩,?_⟩
      rw[g1,g2,g3]
      simp [qU,ix,h0,xH,qD]
     ·refine .inr ⟨λh=>g3 h.2.1,?_⟩
      rw[g1,g2]
      simp [qU,ix,h0,xH,qD,g3]
    ·refine .inr ⟨λh=>g2 h.2.2,?_⟩
     rw[g1]
     simp [qU,ix,h0,xH,qD,g2]
   ·refine .inr ⟨λh=>g1 h.1,?_⟩
    simp [qU,ix,h0,xH,qD,g1]).of (oHv qa.2 (λl=>V T o [l.getD 0 0,l.getD 0 0,l.getD 1 0]=l.getD 0 0/\V T o [l.getD 1 0,l.getD 0 0,l.getD 0 0]=l.getD 0 0/\V T o [l.getD 0 0,l.getD 1 0,l.getD 0 0]=l.getD 0 0))
  rcases this with ⟨h1,h2⟩ | ⟨h1,h2⟩
  ·refine .inl ⟨⟨rfl,h1⟩,?_⟩
   rw[show aR M (T:Int) 2 (λa0=>eE a0 (Op.mk o.arity o.table) (T:Int))=some true from h2];rfl
  ·refine .inr ⟨λh=>h1 h.2,?_⟩
   rw[show aR M (T:Int) 2 (λa0=>eE a0 (Op.mk o.arity o.table) (T:Int))=some false from h2];rfl
 ·rw[if_neg (by rw[ho.ar];simp;omega)]
  exact .inr ⟨λh=>hm h.1,rfl⟩
theorem xKm {m:Nat} (qa:1<=T/\T<=4) {o:Op} (ho:B9 T o m):eH (bR N (T:Int) o 7) (K7 T m o):=by
 have e:bR N (T:Int) o 7=xH (gE (T:Int) o true false) λz1=>some z1:=rfl;rw[e,xMc]
 unfold gE
 by_cases hm:m=3
 ·subst hm
  rw[if_neg (by rw[ho.ar];decide),Ad]
  have key:=yA (xBs (ρ:=Bool) (r:=false) (n:=T) (λa:Nat=>∀ b:Nat,b<T->V T o [(a:Int),(a:Int),(b:Int)]=(a:Int)/\V T o [(b:Int),(a:Int),(a:Int)]=(a:Int)/\V T o [(a:Int),(b:Int),(a:Int)]=(a:Int)) (b:=λ(k1:Nat) (s:Unit)=>match s with | _=>qD (σ:=Unit) (qU (λk2 s=>match s with | _=>qD (σ:=Int) (if false then some (.nx (k2:Int)) else some (.nx (k1:Int))) λs1=>qD (σ:=Bool) (xH (vE (T:Int) o ([(k1:Int),(k1:Int),(k2:Int)])) λz2=>if (z2 != s1) then some (.nx true) else xH (vE (T:Int) o ([(k2:Int),(k1:Int),(k1:Int)])) λz3=>if (z3 != s1) then some (.nx true) else if true then xH (vE (T:Int) o ([(k1:Int),(k2:Int),(k1:Int)])) λz4=>some (.nx (z4 != s1)) else some (.nx false)) λs2=>if s2 then some (.ret (.ret false)) else some (.go ())) T 0 ()) λ_=>some (.go ())) λa ha=>by
   have inner:=xBs (ρ:=Ctl Unit Bool) (r:=Ctl.ret false) (n:=T) (λb:Nat=>V T o [(a:Int),(a:Int),(b:Int)]=(a:Int)/\V T o [(b:Int),(a:Int),(a:Int)]=(a:Int)/\V T o [(a:Int),(b:Int),(a:Int)]=(a:Int)) (b:=λ(k2:Nat) (s:Unit)=>match s with | _=>qD (σ:=Int) (if false then some (.nx (k2:Int)) else some (.nx (a:Int))) λs1=>qD (σ:=Bool) (xH (vE (T:Int) o ([(a:Int),(a:Int),(k2:Int)])) λz2=>if (z2 != s1) then some (.nx true) else xH (vE (T:Int) o ([(k2:Int),(a:Int),(a:Int)])) λz3=>if (z3 != s1) then some (.nx true) else if true then xH (vE (T:Int) o ([(a:Int),(k2:Int),(a:Int)])) λz4=>some (.nx (z4 != s1)) else some (.nx false)) λs2=>if s2 then some (.ret (.ret false)) else some (.go ())) (λb hb=>by
    simp only[Ah,if_false,if_true,thn_nx,(eU qa ho (xOx ha ha hb) rfl).2.1,(eU qa ho (xOx hb ha ha) rfl).2.1,(eU qa ho (xOx ha hb ha) rfl).2.1,bnd_s]
    by_cases g1:V T o [(a:Int),(a:Int),(b:Int)]=(a:Int)
    ·by_cases g2:V T o [(b:Int),(a:Int),(a:Int)]=(a:Int)
     ·by_cases g3:V T o [(a:Int),(b:Int),(a:Int)]=(a:Int)
      ·exact .inl ⟨⟨g1,g2,g3⟩,by simp [g1,g2,g3,qD]⟩
      ·exact .inr ⟨λh=>g3 h.2.2,by simp [g1,g2,g3,qD]⟩
     ·exact .inr ⟨λh=>g2 h.2.1,by simp [g1,g2,qD]⟩
    ·exact .inr ⟨λh=>g1 h.1,by simp [g1,qD]⟩)
   rcases inner with ⟨h1,h2⟩ | ⟨h1,h2⟩
   ·exact .inl ⟨h1,congrArg (λz=>qD z λ_=>some (Ctl.go ())) h2⟩
   ·exact .inr ⟨h1,congrArg (λz=>qD z λ_=>some (Ctl.go ())) h2⟩)
  exact key.of ⟨λh=>⟨rfl,h⟩,λh=>h.2⟩
 ·rw[if_pos (by rw[ho.ar];simp;omega)]
  exact .inr ⟨λh=>hm h.1,rfl⟩
theorem xTy {m:Nat} (qa:1<=T/\T<=4) {o:Op} (ho:B9 T o m) (hN:10<=N):sU (T:Int) o=some true/\xAb N (T:Int) o=some true:=by
 have hs:okS (T:Int)=true:=by simp [okS];omega
 have hm:(decide ((1:Int)<=o.arity) && decide (o.arity<=3))=true:=by rw[ho.ar];have:=ho.m1;have:=ho.m3;simp;omega
 have hp:=sX qa (n:=m) (by have:=ho.m3;omega) hN
 have hv:∀ x∈o.table,okV (T:Int) x=true:=λx hx=>by have:=ho.tb x hx;simp [okV];omega
 constructor
 ·unfold sU
  rw[xHd,hs,bnd_s,if_pos rfl]
  unfold jJ
  rw[eV,bnd_s,hm,bnd_s,if_pos rfl,ho.ar,hp.1,bnd_s,yZ hs,bnd_s]
  have:xAh (T:Int) o.table ((T ^ m:Nat):Int)=true:=by
   unfold xAh
   rw[ho.tl];simp only[beq_self_eq_true,Dh,Cm];exact hv
  rw[this];rfl
 ·have qc:dO (T:Int)=some true:=by
   unfold dO
   rw[dN,bnd_s,show(decide ((1:Int)<=(T:Int)) && decide ((T:Int)<=4))=true from hs]
  have qd:dU (m:Int)=some true:=by
   unfold dU
   rw[<- ho.ar,dN,bnd_s,hm]
  unfold xAb
  rw[qc,bnd_s,if_neg kS,ho.ar,qd,bnd_s,if_neg kS,hp.2,bnd_s,ho.tl,Ee,thn_nx,if_neg kS]
  have:∀ (l:List Int) (k:Nat),(∀ x∈l,okV (T:Int) x=true)->oM (σ:=Unit) (ρ:=Bool) (λk1 (x1:Int) s=>match s with | _=>xH (ck ((T:Int) - 1)) λz1=>xH (kR x1 0 z1) λz2=>if (!z2) then some (.ret false) else some (.go ())) l k ()=some (.nx ()):=by
   intro l
   induction l with
   | nil=>intro k _;rfl
   | cons x l ih=>
    intro k h;have hx:=h x (Bg ..)
    rw[vS (s':=()) (by
     simp only[zO (x:=(T:Int) - 1) xG xG,bnd_s,dN];rw[show(decide ((0:Int)<=x) && decide (x<=(T:Int) - 1))=true from hx]
     rfl)]
    exact ih (k+1) λy hy=>h y (At _ hy)
  rw[this o.table 0 hv]
  rfl
theorem xOr {t:A6} {x:A7} {o:Op} {m:Nat} {k:Int} (ht:lV t) (hi:sO t x=true) (ho:B9 T o m) (hk:k=6∨k=7) (hu:TV T t) (hN:1100<=N) :
 ∃ e,fZ N t x o k=some e/\rR N t x o k=some e/\(e=0->(k=6->K6 T m o)/\(k=7->K7 T m o)/\t.rels.all (fS N T o)=true):=by
 have qa:=hu.t;obtain⟨i1,i2⟩:=xGc (x:=x) ht;rw[hi] at i1 i2;have hv:=xTy qa ho (N:=N) xG
 have qc:∃ b,zR N (T:Int) o k=some b/\bR N (T:Int) o k=some b/\(b=true->(k=6->K6 T m o)/\(k=7->K7 T m o)):=by
  rcases hk with rfl | rfl
  ·obtain⟨b,h1,h2⟩:=(xEl (N:=N) qa ho xG).some
   exact⟨b,h1,by rw[<- h1];exact(xMf qa ho xG).eq (xEl qa ho xG),λh=>⟨λ_=>h2.1 h,λh=>by cases h⟩⟩
  ·obtain⟨b,h1,h2⟩:=(xEr (N:=N) qa ho xG).some
   exact⟨b,h1,by rw[<- h1];exact(xKm qa ho).eq (xEr qa ho xG),λh=>⟨λh=>(by cases h),λ_=>h2.1 h⟩⟩
 obtain⟨b,k1,k2,k3⟩:=qc;obtain⟨z,z1,z2,z3⟩:=xMj (N:=N) xG hu ho
 unfold fZ rR
 rw[show A6.mk t.size t.rels=t from rfl,show A7.mk x.vars x.cons=x from rfl,show Op.mk o.arity o.table=o from rfl,i1,i2,hu.s,bnd_s,bnd_s,hv.1,hv.2,k1,k2,z1,z3];simp only[Br,Ah,if_false,bnd_s,thn_nx]
 have hz:(z != -1) = !t.rels.all (fS N T o):=by rw[<- z2];rfl
 rw[hz]
 cases b with
 | false=>exact⟨4,rfl,rfl,λh=>by cases h⟩
 | true=>
  cases hA:t.rels.all (fS N T o) with
  | false=>exact⟨4,rfl,rfl,λh=>by cases h⟩
  | true=>exact⟨0,rfl,rfl,λ_=>⟨(k3 rfl).1,(k3 rfl).2,rfl⟩⟩
end
section
variable {T:Nat}
theorem nH {α σ ρ:Type} {f:Nat->σ->Option (Ctl σ ρ)} {g:Nat->α->σ->Option (Ctl σ ρ)}:∀ (l:List α) (k k':Nat) (s:σ),(∀ j x s,l[j]?=some x->f (k+j) s=g (k'+j) x s)->qU f l.length k s=oM g l k' s
 | [],_,_,_,_=>rfl
 | x::l,k,k',s,h=>by
  have h0:=h 0 x s rfl;rw[Cd,Cd] at h0
  have ih:∀ s,qU f l.length (k+1) s=oM g l (k'+1) s:=λs=>nH l (k+1) (k'+1) s λj y s hj=>by
   rw[show k+1+j=k+(j+1) by omega,show k'+1+j=k'+(j+1) by omega];exact h (j+1) y s hj
  simp only[Ao,qU,oM,h0,ih]
def xXs (T:Nat) (dom:List (List Int)):Prop:=∀ d∈dom,bJ T d
theorem xXs.stay {x:A6} {c:Con} {p:Nat} {v:Int}:xZo (xXs T) x c p v:=by
 intro dom a hk _ d hd
 rcases Dd hd with hd | rfl
 ·exact hk d hd
 ·intro b hb
  have hb:=(Df.1 hb).1;rw[Ap] at hb
  rcases hj:dom[v.toNat]? with _ | e
  ·rw[hj] at hb;cases hb
  ·rw[hj] at hb;exact hk e (Af hj) b hb
theorem xOg {N:Nat} {t:A6} {y:A7} (hu:TV T t) (hv:1<=y.vars/\y.vars<=10) (hC:∀ c∈y.cons,CV t y.vars c) (hN:1100<=N):∃ r:List B1×List (List Int),fN N t y (List.replicate y.vars.toNat (pX 0 T)) (λ_=>jV)=some r/\lS N t y (List.replicate y.vars.toNat (pX 0 T))=some r/\r.2.length=y.vars.toNat/\xXs T r.2/\(∀ d∈r.2,d.length<=40)/\r.1.length<=40:=by
 have hT:=hu.t
 have ht:tot (List.replicate y.vars.toNat (pX 0 T))<=40:=by
  rw[oEi,oAq];exact Cb (Nat.mul_le_mul (show y.vars.toNat<=10 by omega) hT.2) (Az _)
 have qa:xXs T (List.replicate y.vars.toNat (pX 0 T)):=by
  intro d hd;rw[Cg hd];intro a ha
  unfold pX at ha
  simp at ha
  obtain⟨j,hj,rfl⟩:=ha
  omega
 obtain⟨r,r',h1,h2,rfl,h4,h5,hk,_⟩:=oBk (K:=xXs T) (λc hc p v hp=>xXs.stay) qa (N:=N) (x:=t) (y:=y) (n:=y.vars.toNat) (dom:=List.replicate y.vars.toNat (pX 0 T)) xG (λc hc=>xYe hu (hC c hc) hv.1) ⟨Bv,λd hd=>by rw[Cg hd];exact xTi _ _,Az _⟩ xG xG xG xG;refine⟨r,h1,?_,h4.len,hk,λd hd=>?_,xG⟩
 ·unfold lS
  rw[h2,bnd_s]
 ·have:=xDr hd
  have:=h4.le
  omega
theorem xTa (L:List (List Int)):oY L (λa0=>yY a0)=some (L.any λd=>(d.length:Int)==0)/\pF L=some (L.any λd=>(d.length:Int)==0):=by
 refine⟨sV L _ _ λd _=>rfl,?_⟩
 unfold pF
 have:∀ (l:List (List Int)) (k:Nat),qD (oM (σ:=Unit) (ρ:=Bool) (λk1 (x1:(List Int)) s=>match s with | _=>if ((x1.length:Int)==0) then some (.ret true) else some (.go ())) l k ()) (λ_=>some false)=some (l.any λd=>(d.length:Int)==0):=by
  intro l
  induction l with
  | nil=>intro k;rfl
  | cons d l ih=>
   intro k
   by_cases h:((d.length:Int)==0)=true
   ·rw[fE (r:=true) (by simp only[h,if_true])]
    simp [h,qD]
   ·rw[vS (s':=()) (by simp only[h];rfl),ih (k+1)]
    have h':((d.length:Int)==0)=false:=vV h;rw[Ea,h',En]
 exact this L 0
theorem xPc {T:Nat} (qa:1<=T/\T<=4) {o:Op} (ho:B9 T o 2) {ρ:Type}:∀ (l:List Int) (k:Nat) (s:Int),bJ T l->0<=s/\s<(T:Int)->∃ v,oM (σ:=Int) (ρ:=ρ) (λk1 x1 s1=>xH (aW o (T:Int) ([s1,x1])) λz1=>some (.go z1)) l k s=some (.nx v)/\0<=v/\v<(T:Int)
 | [],_,s,_,hs=>⟨s,rfl,hs⟩
 | x::l,k,s,h,hs=>by
  have hx:=h x (Bg ..)
  have hv:=eU qa ho (l:=[s,x]) (λa ha=>by
   rcases Av.1 ha with rfl | ha
   ·exact hs
   ·rw[Ay.1 ha];exact hx) rfl
  rw[vS (s':=V T o [s,x]) (by rw[hv.1,bnd_s])];exact xPc qa ho l (k+1) _ (λa ha=>h a (At _ ha)) hv.2.2
theorem xYi (qa:1<=T/\T<=4) {o:Op} (ho:B9 T o 2) {d:List Int} (hd:bJ T d) (h0:d≠[]) (hl:d.length<=1000):∃ v,fA (T:Int) o d=some v/\lP (T:Int) o d=some v/\0<=v/\v<(T:Int):=by
 match d with
 | []=>exact absurd rfl h0
 | a::d=>
  obtain⟨v,h1,h2⟩:=xPc (ρ:=Int) qa ho d 0 a (λx hx=>hd x (At _ hx)) (hd a (Bg ..));refine⟨v,?_,?_,h2⟩
  ·unfold fA
   have hs:sl (a::d) 1 ((a::d).length:Int)=some d:=by
    unfold sl
    rw[if_pos ⟨xG,by simp only[Ao];omega,by simp only[Ao];omega⟩]
    simp
   rw[show ix (a::d) 0=some a from rfl,bnd_s,hs,bnd_s,show Op.mk o.arity o.table=o from rfl,h1]
   rfl
  ·unfold lP
   rw[show ix (a::d) 0=some a from rfl,bnd_s,show(((a::d).length:Int) - 1).toNat=d.length by simp only[Ao];omega]
   rw[nH (g:=λ(k1:Nat) (x1:Int) (s1:Int)=>xH (aW o (T:Int) ([s1,x1])) λz1=>some (.go z1)) d 0 0 a (λj x s hj=>by
    have:ix (a::d) (1+((0+j:Nat):Int))=some x:=iU xG (by rw[show(1+((0+j:Nat):Int)).toNat=j+1 by omega];exact hj);simp only[this,bnd_s]
    rfl),h1]
   rfl
theorem oBf {N m:Nat} {t:A6} {x:A7} {o:Op} (ht:lV t) (hi:sO t x=true) (hu:TV T t) (ho:B9 T o m) (hN:1100<=N):∃ r,dC N t x o=some r/\cZ N t x o=some r/\VB r.1:=by
 have qa:=hu.t;obtain⟨e,e1,e2,e3⟩:=xOr (N:=N) (k:=6) ht hi ho (.inl rfl) hu hN
 unfold dC cZ
 rw[show A6.mk t.size t.rels=t from rfl,show A7.mk x.vars x.cons=x from rfl,show Op.mk o.arity o.table=o from rfl,e1,e2,bnd_s,bnd_s]
 by_cases h0:e=0
 ·subst h0
  obtain⟨hm,-⟩:=(e3 rfl).1 rfl;subst hm;obtain⟨hv,-,hC⟩:=xJm hi;obtain⟨r,a1,a2,a3,a4,a5,a6⟩:=xOg hu hv hC hN;have g:=xTa r.2;rw[if_neg kS,if_neg kS,xOb hu hv,xNw hu hv,bnd_s,bnd_s,a1,a2,bnd_s,bnd_s,g.1,g.2,bnd_s,bnd_s]
  by_cases hg:(r.2.any λd=>(d.length:Int)==0)=true
  ·rw[if_pos hg,if_pos hg];exact⟨_,rfl,rfl,Bi _,(show r.1.length<=1000 by omega),Bi _,Bi _⟩
  ·rw[if_neg hg,if_neg hg]
   have qc:∀ d∈r.2,d≠[]:=λd hd h=>hg (List.any_eq_true.2 ⟨d,hd,by rw[h];rfl⟩)
   have hf:∀ d∈r.2,fA t.size o d=some ((fA t.size o d).getD 0)/\lP t.size o d=some ((fA t.size o d).getD 0):=λd hd=>by
    obtain⟨v,h1,h2,_⟩:=xYi qa ho (a4 d hd) (qc d hd) (by have:=a5 d hd;omega);rw[hu.s,h1];exact⟨rfl,h2⟩
   obtain⟨g,hf⟩:∃ g:List Int->Int,∀ d∈r.2,fA t.size o d=some (g d)/\lP t.size o d=some (g d):=⟨λd=>(fA t.size o d).getD 0,hf⟩;rw[lI r.2 g (λk d s hd hs=>by have hj:=(Ac.1 hd).1;rw[(hf d (Af hd)).1,bnd_s,aC (by simp only[Am];omega),bnd_s]) r.2 0 [] rfl rfl];rw[lI r.2 g (λk d s hd hs=>by have hj:=(Ac.1 hd).1;rw[(hf d (Af hd)).2,bnd_s,aC (by simp only[Am];omega),bnd_s]) r.2 0 [] rfl rfl];exact⟨_,rfl,rfl,VB.vals (by rw[Bp,Bw,a3];omega)⟩
 ·rw[if_pos (by simp [h0]),if_pos (by simp [h0])]
  exact⟨_,rfl,rfl,VB.nil⟩
end
section
theorem xVi {α ρ:Type} (L:List α) (p:α->Bool) {b:Bool×Int->Option (Ctl (Bool×Int) ρ)}
 (h1:∀ (i:Nat) t,L[i]?=some t->b (true,(i:Int))=some (.go (p t,((i+1:Nat):Int))))
 (h2:∀ (f:Bool) (i:Nat),(f=false∨L.length<=i)->b (f,(i:Int))=some (.brk (f,(i:Int)))) :
 ∀ (r:List α) (i N:Nat),L.drop i=r->r.length+2<=N->∃ j:Nat,lF b N (true,(i:Int))=some (.nx (r.all p,(j:Int)))
 | [],i,N,hr,hN=>by
  obtain⟨M,rfl⟩:∃ M,N=M+1:=⟨N - 1,xG⟩;have hl:=congrArg List.length hr;rw[Dq] at hl;rw[bU (h2 true i (.inr (by simp at hl;omega)))];exact⟨i,rfl⟩
 | t::r,i,N,hr,hN=>by
  obtain⟨M,rfl⟩:∃ M,N=M+1:=⟨N - 1,xG⟩
  have ht:L[i]?=some t:=by rw[<- Ev,hr];rfl
  have hd:L.drop (i+1)=r:=by rw[<- Es,hr];rfl
  rw[eF (h1 i t ht)]
  by_cases hp:p t=true
  ·rw[hp]
   obtain⟨j,hj⟩:=xVi L p h1 h2 r (i+1) M hd (by simp at hN;omega);exact⟨j,by rw[hj];simp [hp]⟩
  ·have qa:p t=false:=vV hp
   rw[qa];obtain⟨K,rfl⟩:∃ K,M=K+1:=⟨M - 1,by simp at hN;omega⟩;rw[bU (h2 false (i+1) (.inl rfl))];exact⟨i+1,by simp [qa]⟩
def xMa (t:List Int) (i j a b:Int) (k:Nat) (v:Int):Bool:=(v==i && t.getD k 0 != a) || (v==j && t.getD k 0 != b)
def xDj (i j a b:Int) (t:List Int):List Int->Nat->Bool | [],_=>false | v::l,k=>xMa t i j a b k v || xDj i j a b t l (k+1)
def xTr (c:Con) (i j a b:Int) (t:List Int):Bool:=!xDj i j a b t c.scope 0 && agB c.scope t
theorem oBa {ρ:Type} {t:List Int} {i j a b v:Int} {k:Nat} (hk:k<t.length):(if (v==i) then xH (ix t (k:Int)) λz1 =>if (z1 != a) then some (Out.nx true) else if (v==j) then some (Out.nx (z1 != b)) else some (Out.nx (σ:=Bool) (ρ:=ρ) false) else if (v==j) then xH (ix t (k:Int)) λz2=>some (.nx (z2 != b)) else some (.nx false))=some (.nx (xMa t i j a b k v)):=by
 rw[gJ hk,bnd_s,bnd_s]
 unfold xMa
 generalize t.getD k 0=x
 cases (v==i)<;>cases (v==j)<;>cases (x != a)<;>simp
theorem xRk {i j a b:Int} {t:List Int}:∀ (l:List Int) (k:Nat),fnd (λk v=>if xMa t i j a b k v then some false else none) l k=if xDj i j a b t l k then some false else none
 | [],_=>rfl
 | v::l,k=>by
  unfold fnd xDj
  cases h:xMa t i j a b k v
  ·simp only[Ah,if_false,En];exact xRk l (k+1)
  ·simp
theorem xTw {c:Con} {i j a b:Int} {t:List Int} (h:t.length=c.scope.length):iT t c i a j b=some (xTr c i j a b t):=by
 unfold iT
 rw[cR (λk v=>if xMa t i j a b k v then some false else none) (λp v hp=>by
  have hpl:=(Ac.1 hp).1;rw[Bn];simp only;rw[oBa xG,thn_nx]
  cases xMa t i j a b p v<;>rfl),xRk]
 unfold xTr
 cases xDj i j a b t c.scope 0
 ·show xH _ _=_
  rw[xOq c t h,bnd_s]
  simp
 ·simp [xIv]
theorem xKk {ρ:Type} {i j a b:Int} {t:List Int}:∀ (l:List Int) (k:Nat) (s:Bool),k+l.length<=t.length->oM (σ:=Bool) (ρ:=ρ) (λk1 (x1:Int) s1 =>qD (σ:=Bool) (if (x1==i) then xH (ix t (k1:Int)) λz1=>if (z1 != a) then some (.nx true) else if (x1==j) then some (.nx (z1 != b)) else some (.nx false) else if (x1==j) then xH (ix t (k1:Int)) λz2=>some (.nx (z2 != b)) else some (.nx false)) λs2=>if s2 then some (.go false) else some (.go s1)) l k s=some (.nx (s && !xDj i j a b t l k))
 | [],k,s,_=>by simp [oM,xDj]
 | v::l,k,s,h=>by
  rw[Ao] at h
  rw[vS (s':=s && !xMa t i j a b k v) (by
   rw[oBa xG,thn_nx]
   cases xMa t i j a b k v<;>simp),xKk l (k+1) _ xG]
  rw[show xDj i j a b t (v::l) k=(xMa t i j a b k v || xDj i j a b t l (k+1)) from rfl]
  cases s<;>cases xMa t i j a b k v<;>rfl
def xBy (u:A6) (i j a b:Int) (c:Con):Bool:=if !(c.scope.any (· == i)) && !(c.scope.any (· == j)) then true else (u.rels.getD c.rel.toNat default).tuples.any (xTr c i j a b)
theorem xLh {T:Nat} {u:A6} {n:Int} {c:Con} (i j a b:Int) (hu:TV T u) (hc:CV u n c):iF c u i j a b=some (xBy u i j a b c)/\iG u c i j a b=some (xBy u i j a b c):=by
 obtain⟨hsc,r,r0,r1,r2,r3⟩:=hc;obtain⟨m,e,n1,n4,hasc,hm⟩:=hu.r r r2
 have hl:∀ t∈r.tuples,t.length=c.scope.length:=λt ht=>by have:=(cC.1 (hm t ht)).1;omega
 have hg:u.rels.getD c.rel.toNat default=r:=by rw[Ap,r1];rfl
 unfold iF iG xBy
 rw[hg,xCh,xCh,xHf,xHf];simp only[bnd_s]
 have e1:(qD (σ:=Bool) (ρ:=Bool) (if (!(c.scope.any (· == i))) then some (.nx (!(c.scope.any (· == j)))) else some (.nx false)))=λk=>k (!(c.scope.any (· == i)) && !(c.scope.any (· == j))):=by
  funext k
  cases c.scope.any (· == i)<;>rfl
 rw[e1]
 cases (!(c.scope.any (· == i)) && !(c.scope.any (· == j))) with
 | true=>exact⟨rfl,rfl⟩
 | false=>
  simp only[if_neg (show ¬ (false=true) by simp),iU r0 r1,bnd_s]
  constructor
  ·rw[sV _ (xTr c i j a b) _ (λt ht=>xTw (c:=c) (hl t ht)),bnd_s]
  ·rw[cR (λ_ t=>if xTr c i j a b t then some true else none) (λp t hp=>by
    have ht:=hl t (Af hp);rw[xQz c t ht,bnd_s,xKk c.scope 0 _ xG,thn_nx]
    unfold xTr
    cases agB c.scope t<;>cases xDj i j a b t c.scope 0<;>rfl),sY]
   cases r.tuples.any (xTr c i j a b)<;>rfl
def xSm (u:A6) (y:A7) (i j:Int) (d:List Int):Bool:=y.cons.all (xBy u i j (d.getD 0 0) (d.getD 1 0))
def xLn (T:Nat) (u:A6) (y:A7) (i j:Int):Rel:=⟨2,(vQ T 2).filter (xSm u y i j)⟩
theorem xTu {N T:Nat} {u:A6} {y:A7} (hu:TV T u) (hC:∀ c∈y.cons,CV u y.vars c) (hN:10<=N) (i j:Int):jZ N u.size 2 (λa0=>cX a0 (A7.mk y.vars y.cons) (A6.mk u.size u.rels) i j)=some (xLn T u y i j):=by
 have h:=xSi (N:=N) (T:=T) (n:=2) hu.t xG hN (is:=λa0=>cX a0 (A7.mk y.vars y.cons) (A6.mk u.size u.rels) i j) (xSm u y i j) (λd hd=>by
  have hl:=(cC.1 hd).1
  unfold cX
  rw[yM y.cons (λc=>!xBy u i j (d.getD 0 0) (d.getD 1 0) c) _ (λc hc=>by
   unfold lX
   have h0:ix d 0=some (d.getD 0 0):=gJ (k:=0) xG;have h1:ix d 1=some (d.getD 1 0):=gJ (k:=1) xG;rw[h0,h1,bnd_s,bnd_s];have h2:iF (Con.mk c.rel c.scope) (A6.mk u.size u.rels) i j (d.getD 0 0) (d.getD 1 0)=some (xBy u i j (d.getD 0 0) (d.getD 1 0) c):=(xLh i j _ _ hu (hC c hc)).1
   rw[h2,bnd_s]),bnd_s,<- Eu,Bool.not_not]
  rfl)
 rw[hu.s];exact h
theorem oDh:∀ T:Nat,T<5->∀ k:Nat,k<T*T->(vQ T 2)[k]?=some [(k:Int).tdiv T,(k:Int).tmod T]:=by decide +kernel
theorem oEl:∀ T:Nat,T<5->∀ k:Nat,k<T*T->dv (k:Int) T=some ((k:Int).tdiv T)/\rm (k:Int) T=some ((k:Int).tmod T):=by decide +kernel
theorem xPv:∀ T:Nat,T<5->(vQ T 2).length=T*T/\ck ((T:Int)*(T:Int))=some ((T*T:Nat):Int)/\T*T<=16:=by decide +kernel
theorem xWx {N T:Nat} {u:A6} {y:A7} {ρ:Type} (hu:TV T u) (hy:y.cons.length<=24) (hC:∀ c∈y.cons,CV u y.vars c) (hN:100<=N) (i j:Int):∀ (M k:Nat) (s:List (List Int)),T*T - k<M->k<=T*T->s.length<=k->
 lF (σ:=Int×(List (List Int))) (ρ:=ρ) (λs=>match s with | (s1,s2)=>xH (ck (u.size*u.size)) λz1=>if (decide (s1<z1)) then xH (dv s1 u.size) λz2=>xH (rm s1 u.size) λz3=>qD (σ:=Bool×Int) (lF (λs=>match s with | (s3,s4)=>qD (σ:=Bool) (if (decide (s4<(y.cons.length:Int))) then some (.nx s3) else some (.nx false)) λs5=>if s5 then xH (ix y.cons s4) λz4=>xH (iG u z4 i j z2 z3) λz5=>xH (ck (s4+1)) λz6=>some (.go (z5,z6)) else some (.brk (s3,s4))) N (true,0)) λ(s6,s7)=>if s6 then xH (ap s2 ([[z2,z3]])) λz7=>xH (ck (s1+1)) λz8=>some (.go (z8,z7)) else xH (ck (s1+1)) λz9=>some (.go (z9,s2)) else some (.brk (s1,s2))) M ((k:Int),s)=some (.nx (((T*T:Nat):Int),s++((vQ T 2).drop k).filter (xSm u y i j))):=by
 intro M
 induction M with
 | zero=>intro k s h;omega
 | succ M ih=>
  intro k s hM hk hs;have qa:u.size=(T:Int):=hu.s;obtain⟨qf,h4,h16⟩:=xPv T (by have:=hu.t;omega)
  rcases Ec k (T*T) with qc | hge
  ·have qd:=oDh T (by have:=hu.t;omega) k qc
   have hd:(vQ T 2).drop k=[(k:Int).tdiv T,(k:Int).tmod T]::(vQ T 2).drop (k+1):=by
    have hl:k<(vQ T 2).length:=by rw[qf];exact qc
    rw[Bt hl];rw[Aa hl] at qd;rw[Option.some.inj qd]
   obtain⟨h5,h6⟩:=oEl T (by have:=hu.t;omega) k qc;have qg:∃ b:Bool,b=xSm u y i j [(k:Int).tdiv T,(k:Int).tmod T]:=⟨_,rfl⟩;obtain⟨b,hb⟩:=qg
   obtain⟨e,he⟩:=xVi y.cons (xBy u i j ((k:Int).tdiv T) ((k:Int).tmod T)) (ρ:=(Ctl (Int×(List (List Int))) ρ)) (b:=λ(s:Bool×Int) =>match s with | (s3,s4)=>qD (σ:=Bool) (if (decide (s4<(y.cons.length:Int))) then some (.nx s3) else some (.nx false)) λs5=>if s5 then xH (ix y.cons s4) λz4=>xH (iG u z4 i j ((k:Int).tdiv T) ((k:Int).tmod T)) λz5=>xH (ck (s4+1)) λz6=>some (.go (z5,z6)) else some (.brk (s3,s4))) (λq c hq=>by
    have hql:=(Ac.1 hq).1;simp only;rw[if_pos (by simp;omega),thn_nx,if_pos rfl,vD hq,bnd_s,(xLh i j _ _ hu (hC c (Af hq))).2,bnd_s,zO xG xG,bnd_s]
    rfl) (λf q qh=>by
    by_cases hl:((q:Int)<(y.cons.length:Int))
    ·have hf:f=false:=by
      rcases qh with h | h
      ·exact h
      ·omega
     subst hf
     simp [hl]
    ·simp [hl]) y.cons 0 N rfl xG
   have qi:y.cons.all (xBy u i j ((k:Int).tdiv T) ((k:Int).tmod T))=b:=by rw[hb];rfl
   rw[qi,show(((0:Nat)):Int)=0 from rfl] at he;rw[hd,Dz,<- hb]
   cases qe:b with
   | true=>
    rw[qe] at he
    rw[eF (s':=(((k+1:Nat):Int),s++[[(k:Int).tdiv T,(k:Int).tmod T]])) (by
     simp only[qa,h4,bnd_s,h5,h6];rw[if_pos (by simp;omega),he,thn_nx,if_pos rfl,aC (by simp only[Ao,Bh];omega),bnd_s,zO xG xG,bnd_s]
     rfl),ih (k+1) _ xG xG (by
      rw[Ar,Am];omega),if_pos rfl,Dl]
    rfl
   | false=>
    rw[qe] at he
    rw[eF (s':=(((k+1:Nat):Int),s)) (by
     simp only[qa,h4,bnd_s,h5,h6];rw[if_pos (by simp;omega),he,thn_nx,if_neg vK,zO xG xG,bnd_s]
     rfl),ih (k+1) _ xG xG xG,if_neg vK]
  ·obtain rfl:k=T*T:=xG
   rw[bU (s':=(((T*T:Nat):Int),s)) (by
    simp only[qa,h4,bnd_s]
    rw[if_neg vK])]
   have:(vQ T 2).drop (T*T)=[]:=Cv xG;rw[this,List.filter_nil,Ch]
end
section
variable {T:Nat} {i:Nat} {j:Nat} {L:List Rel}
theorem bY.forI {σ σ' ρ ρ':Type} {f:Nat->σ->Option (Ctl σ ρ)} {g:Nat->σ'->Option (Ctl σ' ρ')} (d:Nat) (R:Nat->σ->σ'->Prop) (Q:ρ->ρ'->Prop):∀ {m k:Nat} {s:σ} {s':σ'},R k s s'->
 (∀ j s s',k<=j->j<k+m->R j s s'->bY (f (j+d) s) (g j s') (oIv (R (j+1)) (λ_ _=>False) Q))->bY (Go.Proofs.YtomlfdagbmgmgaaGreat.qU f m (k+d) s) (Go.Proofs.YtomlfdagbmgmgaaGreat.qU g m k s') (xWu (R (k+m)) Q)
 | 0,k,s,s',h,_=>bY.s h
 | m+1,k,s,s',h,hh=>by
  obtain⟨a,b,h1,h2,h3⟩:=hh k s s' (Az _) xG h
  cases a with
  | go t=>cases b with
   | go t'=>
    rw[zQ h1,zQ h2];have:=bY.forI d R Q (m:=m) (k:=k+1) (s:=t) (s':=t') h3 (λj s s' h1 h2 h3=>hh j s s' xG xG h3);rw[Nat.add_right_comm,show k+(m+1)=k+1+m by omega];exact this
   | brk _=>exact h3.elim
   | ret _=>exact h3.elim
  | brk _=>cases b<;>exact h3.elim
  | ret r=>cases b with
   | ret r'=>rw[lK h1,lK h2];exact bY.s h3
   | go _=>exact h3.elim
   | brk _=>exact h3.elim
def tri:Nat->Nat | 0=>0 | n+1=>tri n+n
theorem xUi {V:Nat} (h:i<j) (hj:j<V):tri j+i<tri V:=by
 induction V with
 | zero=>omega
 | succ V ih=>
  show tri j+i<tri V+V
  rcases Ec j V with h1 | h1
  ·have:=ih h1;omega
  ·obtain rfl:j=V:=xG
   omega
theorem xUa {V:Nat} (h:V<=10):tri V<=45:=by
 have:∀ V:Nat,V<11->tri V<=45:=kS;exact this V xG
theorem oJu:∀ j:Nat,j<11->ck ((j:Int) - 1)=some ((j:Int) - 1)/\ck ((j:Int)*((j:Int) - 1))=some ((j:Int)*((j:Int) - 1))/\dv ((j:Int)*((j:Int) - 1)) 2=some (tri j:Int):=kS
structure RelOk (T:Nat) (r:Rel):Prop where
  t:1<=T/\T<=4
  ar:r.arity=2
  asc:Asc r.tuples
  m:∀ t∈r.tuples,t∈vQ T 2
structure C0 (T V:Nat) (L:List Rel):Prop where
  len:L.length=tri V
  r:∀ r∈L,RelOk T r
theorem oBc (hT:1<=T/\T<=4) (u:A6) (y:A7) (i j:Int):RelOk T (xLn T u y i j):=⟨hT,rfl,(xLa T 2).filter _,λt ht=>(Df.1 ht).1⟩
theorem xXn {N V:Nat} {u:A6} {y:A7} (hu:TV T u) (hy:y.cons.length<=24) (hC:∀ c∈y.cons,CV u y.vars c) (hV:y.vars=V) (hV1:1<=V/\V<=10) (hN:100<=N):bY (gZ N u y) (mD N u y) (λL L'=>L=L'/\C0 T V L):=by
 obtain⟨m,rfl⟩:∃ m,V=m+1:=⟨V - 1,xG⟩
 unfold gZ mD
 rw[hV,show(((m+1:Nat):Int)).toNat=m+1 by omega,show(((m+1:Nat):Int) - 1).toNat=m by omega];have hb:=xUa (V:=m+1) xG;rw[zQ (s':=[]) (k:=0) rfl];refine bY.thn (λs s'=>s=s'/\s.length=tri (m+1)/\∀ r∈s,RelOk T r) (λ_ _=>False) (bY.mono (bY.forI 1 (λk s s'=>s=s'/\s.length=tri (k+1)/\∀ r∈s,RelOk T r) (λ_ _=>False) (k:=0) ⟨rfl,rfl,(λr hr=>nomatch hr)⟩ (λj s s' hj0 hj hR=>?_)) (λa a' h=>?_)) (λa a' h=>bY.s ⟨h.1,h.2.1,h.2.2⟩) (λ_ _ h=>h.elim)
 ·obtain⟨rfl,hl,hr⟩:=hR
  have qa:(1:Int)+(j:Int)=((j+1:Nat):Int):=xG
  have qc:∀ i,i<j+1->tri (j+1)+i<45:=λi hi=>by
   have:=xUi (i:=i) (j:=j+1) (V:=m+1) hi xG
   omega
  simp only[qa];rw[show(((j+1:Nat):Int)).toNat=j+1 by omega];refine bY.thn (λs s'=>s=s'/\s.length=tri (j+2)/\∀ r∈s,RelOk T r) (λ_ _=>False) (bY.mono (bY.forI 0 (λk s s'=>s=s'/\s.length=tri (j+1)+k/\∀ r∈s,RelOk T r) (λ_ _=>False) (k:=0) ⟨rfl,hl,hr⟩ (λi s s' hi0 hi hR=>?_)) (λa a' h=>?_)) (λa a' h=>bY.s ⟨h.1,h.2.1,h.2.2⟩) (λ_ _ h=>h.elim)
  ·obtain⟨rfl,hl,hr⟩:=hR
   have h9:=qc i xG;simp only[Cd]
   have e1:jZ N u.size 2 (λa0=>cX a0 (A7.mk ((m+1:Nat):Int) y.cons) (A6.mk u.size u.rels) (i:Int) ((j+1:Nat):Int))=some (xLn T u y i ((j+1:Nat):Int)):=by
    have:=xTu hu hC (N:=N) xG (i:Int) ((j+1:Nat):Int);rw[hV] at this;exact this
   have hw:=xWx (N:=N) (y:=y) (ρ:=(Ctl ((List Rel)) (Ctl ((List Rel)) (List Rel)))) hu hy hC hN (i:Int) ((j+1:Nat):Int) N 0 [] (by have:=xPv T (by have:=hu.t;omega);omega) xG vK;rw[show((0:Nat):Int)=0 from rfl,Ex,Bp] at hw;rw[e1,bnd_s,hw,thn_nx];simp only;have e2:(Rel.mk (xLn T u y i ((j+1:Nat):Int)).arity (xLn T u y i ((j+1:Nat):Int)).tuples)=xLn T u y i ((j+1:Nat):Int):=rfl;have e3:(Rel.mk 2 ((vQ T 2).filter (xSm u y i ((j+1:Nat):Int))))=xLn T u y i ((j+1:Nat):Int):=rfl;rw[e2,e3,aC (by simp only[Ao,Bh];omega),bnd_s];refine bY.s ⟨rfl,by rw[Ar,Am];omega,λr h=>?_⟩
   rcases Aj.1 h with h | h
   ·exact hr r h
   ·rw[Ay] at h;subst h;exact oBc hu.t _ _ _ _
  ·rw[Bn] at h
   exact h
 ·rw[Bn] at h
  exact h
def oEg (L:List Rel) (i j:Nat):List (List Int):=(L.getD (tri j+i) default).tuples
def lfB (L:List Rel) (p q:Nat) (a b:Int):Bool:=if q<p then decide ([b,a]∈oEg L q p) else decide ([a,b]∈oEg L p q)
theorem C0.at {V:Nat} (h:C0 T V L) (hi:i<j) (hj:j<V):L[tri j+i]?=some (L.getD (tri j+i) default)/\RelOk T (L.getD (tri j+i) default):=by
 have h1:=xUi hi hj
 have h2:L[tri j+i]?=some (L.getD (tri j+i) default):=by rw[Ap,Aa (by rw[h.len];exact h1)];rfl
 exact⟨h2,h.r _ (Af h2)⟩
theorem RelOk.four {r:Rel} (h:RelOk T r):r.tuples.length<=16:=by
 rw[xMh h.asc h.m];have:=xPv T (by have:=h.t;omega);exact Cb (Ez _ _) xG
theorem xAd (hi:i<j) (hj:j<10):iZ (i:Int) (j:Int)=some ((tri j+i:Nat):Int)/\iK (i:Int) (j:Int)=some ((tri j+i:Nat):Int):=by
 obtain⟨h1,h2,h3⟩:=oJu j xG;have h4:=xUi hi hj;have h5:=xUa (V:=10) xG
 have h6:ck ((tri j:Int)+(i:Int))=some ((tri j+i:Nat):Int):=by rw[zO xG xG];push_cast;rfl
 unfold iZ iK
 simp only[if_pos (show(i:Int)<(j:Int) by omega),if_neg (show ¬ (j:Int)<(i:Int) by omega),h1,h2,h3,h6,bnd_s];exact⟨trivial,trivial⟩
theorem mW {N V:Nat} (h:C0 T V L) (hV:V<=10) {p q:Nat} (hp:p<V) (hq:q<V) (hne:p≠q) (a b:Int) (hN:1100<=N):gI N L (p:Int) (q:Int) a b=some (lfB L p q a b)/\aS L (p:Int) (q:Int) a b=some (lfB L p q a b):=by
 unfold gI aS lfB
 rcases Ec q p with qa | hge
 ·obtain⟨h1,h2⟩:=h.at qa hp
  obtain⟨e1,e2⟩:=xAd qa xG
  have hd:decide ((q:Int)<(p:Int))=true:=by simp;omega
  rw[if_pos qa,hd];simp only[if_true,thn_nx,e1,e2,bnd_s,vD h1,xHv,xQb (t:=[b,a]) h2.asc (by have:=h2.four;omega) (xG:1002<=N)];exact⟨rfl,rfl⟩
 ·obtain⟨h1,h2⟩:=h.at (show p<q by omega) hq
  obtain⟨e1,e2⟩:=xAd (show p<q by omega) xG
  have hd:decide ((q:Int)<(p:Int))=false:=by simp;omega
  rw[if_neg (show ¬ q<p by omega),hd];simp only[Ah,if_false,thn_nx,e1,e2,bnd_s,vD h1,xHv,xQb (t:=[a,b]) h2.asc (by have:=h2.four;omega) (xG:1002<=N)];exact⟨rfl,rfl⟩
def xCa (L:List Rel):Nat:=(L.map λr=>r.tuples.length).sum
theorem xQy:∀ (L:List Rel) (i:Nat) (d w:Rel),L[i]?=some d->xCa (L.set i w)+d.tuples.length=xCa L+w.tuples.length
 | [],i,d,w,h=>by simp at h
 | x::r,0,d,w,h=>by
  simp at h;subst h
  simp [xCa];omega
 | x::r,i+1,d,w,h=>by
  have:=xQy r i d w (vV h)
  simp [xCa] at this ⊢
  omega
theorem xUx {T:Nat}:∀ (L:List Rel),(∀ r∈L,RelOk T r)->xCa L<=16*L.length
 | [],_=>by simp [xCa]
 | x::r,h=>by
  have h1:=xUx r (λy hy=>h y (by simp [hy]));have h2:=(h x vK).four
  simp [xCa] at h1 ⊢
  omega
theorem xVw {α ρ:Type} (L:List α) (p:α->Bool) {b:Bool×Int->Option (Ctl (Bool×Int) ρ)}
 (h1:∀ (i:Nat) t,L[i]?=some t->b (false,(i:Int))=some (.go (p t,((i+1:Nat):Int))))
 (h2:∀ (f:Bool) (i:Nat),(f=true∨L.length<=i)->b (f,(i:Int))=some (.brk (f,(i:Int)))) :
 ∀ (r:List α) (i N:Nat),L.drop i=r->r.length+2<=N->∃ j:Nat,lF b N (false,(i:Int))=some (.nx (r.any p,(j:Int)))
 | [],i,N,hr,hN=>by
  obtain⟨M,rfl⟩:∃ M,N=M+1:=⟨N - 1,xG⟩;have hl:=congrArg List.length hr;rw[Dq] at hl;exact⟨i,bU (h2 false i (.inr (by simp at hl;omega)))⟩
 | t::r,i,N,hr,hN=>by
  obtain⟨M,rfl⟩:∃ M,N=M+2:=⟨N - 2,by simp at hN;omega⟩
  have hi:i<L.length:=by
   rcases Ec i L.length with h | h
   ·exact h
   ·rw[Cv h] at hr;cases hr
  rw[Bt hi] at hr
  injection hr with e1 e2
  have ht:L[i]?=some t:=by rw[Aa hi,e1]
  rw[show M+2=(M+1)+1 from rfl,eF (h1 i t ht),Ea]
  cases hp:p t with
  | true=>exact⟨i+1,bU (h2 true (i+1) (.inl rfl))⟩
  | false=>rw[En];exact xVw L p h1 h2 r (i+1) (M+1) e2 (by simp at hN;omega)
def xQq (T:Nat) (L:List Rel) (i j k:Nat) (d:List Int):Bool:=(List.range' 0 T).any λv=>lfB L i k (d.getD 0 0) (v:Int) && lfB L k j (v:Int) (d.getD 1 0)
def oBz (T:Nat) (L:List Rel) (i j k:Nat):Prop:=∀ d∈oEg L i j,xQq T L i j k d=true
theorem xGl {N V T:Nat} {L:List Rel} {i j k:Nat} {ρ:Type} (h:C0 T V L) (hV:V<=10) (hi:i<j) (hj:j<V) (hk:k<V) (qa:k≠i) (qc:k≠j) (hN:1100<=N):∀ (l:List (List Int)) (p:Nat) (s:List (List Int)),(∀ d∈l,d.length=2)->s.length+l.length<=1000->
 oM (σ:=List (List Int)) (ρ:=ρ) (λk1 (x1:(List Int)) s1=>qD (σ:=Bool×Int) (lF (λs=>match s with | (s2,s3)=>qD (σ:=Bool) (if (decide (s3<(T:Int))) then some (.nx (!s2)) else some (.nx false)) λs4=>if s4 then qD (σ:=Bool) (xH (ix x1 0) λz1=>xH (aS L (i:Int) (k:Int) z1 s3) λz2=>if z2 then xH (ix x1 1) λz3=>xH (aS L (k:Int) (j:Int) s3 z3) λz4=>some (.nx z4) else some (.nx false)) λs5=>xH (ck (s3+1)) λz5=>some (.go (s5,z5)) else some (.brk (s2,s3))) N (false,0)) λ(s6,s7)=>if s6 then xH (ap s1 ([x1])) λz6=>some (.go z6) else some (.go s1)) l p s=some (.nx (s++l.filter (xQq T L i j k)))
 | [],p,s,_,_=>by simp [oM]
 | d::l,p,s,hd,hs=>by
  rw[Ao] at hs;have hd2:=hd d vK;have hT4:=(h.at hi hj).2.t;have h0:ix d 0=some (d.getD 0 0):=gJ (k:=0) xG;have h1:ix d 1=some (d.getD 1 0):=gJ (k:=1) xG
  obtain⟨e,he⟩:=xVw (List.range' 0 T) (λv=>lfB L i k (d.getD 0 0) (v:Int) && lfB L k j (v:Int) (d.getD 1 0)) (ρ:=(Ctl ((List (List Int))) ρ)) (b:=λ(s:Bool×Int)=>match s with | (s2,s3)=>qD (σ:=Bool) (if (decide (s3<(T:Int))) then some (.nx (!s2)) else some (.nx false)) λs4=>if s4 then qD (σ:=Bool) (xH (ix d 0) λz1=>xH (aS L (i:Int) (k:Int) z1 s3) λz2=>if z2 then xH (ix d 1) λz3=>xH (aS L (k:Int) (j:Int) s3 z3) λz4=>some (.nx z4) else some (.nx false)) λs5=>xH (ck (s3+1)) λz5=>some (.go (s5,z5)) else some (.brk (s2,s3))) (λq t hq=>by
   have qe:=(Ac.1 hq).1;rw[List.length_range'] at qe
   have ht:t=q:=by
    rw[List.getElem?_range' xG] at hq;have:=Option.some.inj hq
    omega
   subst ht;have l1:=(mW h hV (show i<V by omega) hk (λh=>qa h.symm) (d.getD 0 0) (t:Int) hN).2;have l2:=(mW h hV hk hj qc (t:Int) (d.getD 1 0) hN).2;simp only;rw[if_pos (by simp;omega),thn_nx];simp only[Co,if_true,h0,h1,bnd_s,l1,l2,zO (x:=(t:Int)+1) xG xG]
   cases lfB L i k (d.getD 0 0) (t:Int)<;>rfl) (λf q qd=>by
   rw[List.length_range'] at qd
   by_cases hl:((q:Int)<(T:Int))
   ·have hf:f=true:=by
     rcases qd with h | h
     ·exact h
     ·omega
    subst hf
    simp [hl]
   ·simp [hl]) (List.range' 0 T) 0 N rfl (by rw[List.length_range'];omega)
  rw[show(((0:Nat)):Int)=0 from rfl] at he;have ih:=λs' qf=>xGl (ρ:=ρ) h hV hi hj hk qa qc hN l (p+1) s' (λd qg=>hd d (by simp [qg])) qf;rw[Dz];have qh:(List.range' 0 T).any (λv=>lfB L i k (d.getD 0 0) (v:Int) && lfB L k j (v:Int) (d.getD 1 0))=xQq T L i j k d:=rfl;rw[qh] at he
  cases hb:xQq T L i j k d with
  | true=>
   rw[hb] at he;rw[vS (s':=s++[d]) (by rw[he,thn_nx];simp only[if_true];rw[aC (by simp only[Ao,Bh];omega),bnd_s]),ih _ (by rw[Ar,Am];omega),if_pos rfl,Dl]
   rfl
  | false=>
   rw[hb] at he;rw[vS (s':=s) (by rw[he,thn_nx];rfl),ih _ xG,if_neg vK]
theorem oAl {α:Type} {l:List α} {k:Nat} {x:α} (h:l[k]?=some x):l.set k x=l:=by
 apply Cr
 intro a
 by_cases ha:k=a
 ·subst ha
  rw[Ai ((Ac.1 h).1),h]
 ·rw[Ak ha]
theorem xTz {N V:Nat} {k:Nat} (h:C0 T V L) (hV:V<=10) (hi:i<j) (hj:j<V) (hk:k<V) (qd:k≠i) (qe:k≠j) (hN:1100<=N) :
 ∃ ch L',jK N (T:Int) L (B0.mk (i:Int) (j:Int) (k:Int))=some (ch,L')/\dF N (T:Int) L (i:Int) (j:Int) (k:Int)=some (ch,L')/\C0 T V L'/\(ch=false->L'=L/\oBz T L i j k)/\(ch=true->xCa L'<xCa L):=by
 obtain⟨h1,h2⟩:=h.at hi hj;obtain⟨e1,e2⟩:=xAd hi (show j<10 by omega);have h4:=h2.four;obtain⟨r,hr⟩:∃ r,r=L.getD (tri j+i) default:=⟨_,rfl⟩
 have hp:oEg L i j=r.tuples:=by rw[hr];rfl
 rw[<- hr] at h1 h2 h4;obtain⟨F,hF⟩:∃ F,F=r.tuples.filter (xQq T L i j k):=⟨_,rfl⟩
 have hW:(vQ T 2).filter (λd=>xQq T L i j k d && decide (d∈r.tuples))=F:=by
  rw[<- List.filter_filter,<- xMh h2.asc h2.m,hF]
 have hFl:F.length<=r.tuples.length:=by rw[hF];exact Ez _ _
 have eI:jZ N (T:Int) 2 (λa0=>mF N a0 L ((tri j+i:Nat):Int) (T:Int) (B0.mk (i:Int) (j:Int) (k:Int)))=some ⟨2,F⟩:=by
  have:=xSi (N:=N) (T:=T) (n:=2) h2.t xG xG (is:=λa0=>mF N a0 L ((tri j+i:Nat):Int) (T:Int) (B0.mk (i:Int) (j:Int) (k:Int))) (λd=>xQq T L i j k d && decide (d∈r.tuples)) (λd hd=>by
   have hl:=(cC.1 hd).1
   unfold mF
   rw[vD h1,bnd_s,xQb h2.asc xG xG,bnd_s]
   cases hm:decide (d∈r.tuples) with
   | false=>simp
   | true=>
    rw[if_neg vK];have h0:ix d 0=some (d.getD 0 0):=gJ (k:=0) xG;have h9:ix d 1=some (d.getD 1 0):=gJ (k:=1) xG;rw[Ad]
    rw[wW (λv=>lfB L i k (d.getD 0 0) (v:Int) && lfB L k j (v:Int) (d.getD 1 0)) true T 0 (λv hv0 hv=>by
     have l1:=(mW h hV (show i<V by omega) hk (λh=>qd h.symm) (d.getD 0 0) (v:Int) hN).1;have l2:=(mW h hV hk hj qe (v:Int) (d.getD 1 0) hN).1;simp only[h0,h9,bnd_s,l1,l2]
     cases lfB L i k (d.getD 0 0) (v:Int)<;>cases lfB L k j (v:Int) (d.getD 1 0)<;>rfl)]
    show qD (some (if xQq T L i j k d then _ else _)) _=_
    cases xQq T L i j k d<;>rfl)
  rw[hW] at this;exact this
 have qg:C0 T V (L.set (tri j+i) ⟨2,F⟩):=⟨by rw[Cl];exact h.len,λq hq=>by
  rcases Dd hq with hq | rfl
  ·exact h.r q hq
  ·exact⟨h2.t,rfl,by rw[hF];exact h2.asc.filter _,λt ht=>by rw[hF] at ht;exact h2.m t (Df.1 ht).1⟩⟩
 have qc:=xQy L (tri j+i) r ⟨2,F⟩ h1
 have eS:dF N (T:Int) L (i:Int) (j:Int) (k:Int)=some (decide ((F.length:Int)<(r.tuples.length:Int)),L.set (tri j+i) ⟨2,F⟩):=by
  unfold dF
  rw[e2,bnd_s,vD h1,bnd_s,xGl h hV hi hj hk qd qe hN r.tuples 0 [] (λd hd=>(cC.1 (h2.m d hd)).1) (by simp only[Bh];omega),thn_nx,Bp,<- hF,Ad]
 have eI2:jK N (T:Int) L (B0.mk (i:Int) (j:Int) (k:Int))=if ((F.length:Int)==(r.tuples.length:Int)) then some (false,L) else some (true,L.set (tri j+i) ⟨2,F⟩):=by
  unfold jK
  simp only[e1,bnd_s];rw[eI,bnd_s,vD h1,bnd_s,Ad]
 by_cases hl:F.length=r.tuples.length
 ·have qf:F=r.tuples:=by
   rw[hF];exact List.Sublist.eq_of_length List.filter_sublist (by rw[<- hF];exact hl)
  have qa:L.set (tri j+i) ⟨2,F⟩=L:=by
   refine oAl ?_;rw[h1,qf,<- h2.ar]
  refine⟨false,L,?_,?_,h,λ_=>⟨rfl,λd hd=>?_⟩,λh=>nomatch h⟩
  ·rw[eI2,if_pos (by simp;omega)]
  ·rw[eS,qa,decide_eq_false xG]
  ·rw[hp,<- qf,hF] at hd
   exact(Df.1 hd).2
 ·refine⟨true,_,?_,?_,qg,λh=>(nomatch h),λ_=>?_⟩
  ·rw[eI2,if_neg (by simp;omega)]
  ·rw[eS,decide_eq_true xG]
  ·simp only at qc
   omega
end
section
structure QInv (U V B T:Nat) (D:Nat->Nat->Nat->Prop) (s:List B0×Bool×List Rel):Prop where
  ok:C0 U V s.2.2
  sum:s.1.length+xCa s.2.2<=T
  ge:B<=s.1.length
  yes:s.2.1=true->B<s.1.length
  no:s.2.1=false->s.1.length=B
  con:s.2.1=false->∀ i j k,i<j->j<V->k<V->k≠i->k≠j->D i j k->oBz U s.2.2 i j k
theorem QInv.mono {U V B T:Nat} {D D':Nat->Nat->Nat->Prop} {s:List B0×Bool×List Rel} (h:QInv U V B T D s) (hd:∀ i j k,i<j->j<V->k<V->k≠i->k≠j->D' i j k->D i j k):QInv U V B T D' s:= ⟨h.ok,h.sum,h.ge,h.yes,h.no,λhf i j k h1 h2 h3 h4 h5 h6=>h.con hf i j k h1 h2 h3 h4 h5 (hd i j k h1 h2 h3 h4 h5 h6)⟩
theorem xZc {N U V B T:Nat} {u:A6} {ρ ρ':Type} (hu:u.size=(U:Int)) (hV:1<=V/\V<=10) (hT:T<=1000) (hN:1100<=N) {s:List B0×Bool×List Rel} (I:QInv U V B T (λ_ _ _=>False) s) :
 bY (qU (σ:=(List B0)×Bool×(List Rel)) (ρ:=ρ) (λk1 s=>match s with | (s1,s2,s3)=>qD (σ:=(List B0)×Bool×(List Rel)) (qU (λk2 s=>match s with | (s4,s5,s6)=>qD (σ:=(List B0)×Bool×(List Rel)) (qU (λk3 s=>match s with | (s7,s8,s9)=>qD (σ:=(List Rel)×Bool) (if ((k3:Int) != (k2:Int)) then if ((k3:Int) != (k1:Int)) then xH (jK N u.size s9 (B0.mk (k2:Int) (k1:Int) (k3:Int))) λz1=>some (.nx (z1.2,z1.1)) else some (.nx (s9,false)) else some (.nx (s9,false))) λ(s10,s11)=>if s11 then xH (ap s7 ([(B0.mk (k2:Int) (k1:Int) (k3:Int))])) λz2=>some (.go (z2,true,s10)) else some (.go (s7,s8,s10))) ((V:Nat):Int).toNat 0 (s4,s5,s6)) λ(s12,s13,s14)=>some (.go (s12,s13,s14))) (k1:Int).toNat 0 (s1,s2,s3)) λ(s15,s16,s17)=>some (.go (s15,s16,s17))) ((V:Nat):Int).toNat 0 s)
  (qU (σ:=(List B0)×(List Rel)) (ρ:=ρ') (λk4 s=>match s with | (s18,s19)=>qD (σ:=(List B0)×(List Rel)) (qU (λk5 s=>match s with | (s20,s21)=>qD (σ:=(List B0)×(List Rel)) (qU (λk6 s=>match s with | (s22,s23)=>qD (σ:=(List Rel)×Bool) (if ((k6:Int) != (k5:Int)) then if ((k6:Int) != (1+(k4:Int))) then xH (dF N u.size s23 (k5:Int) (1+(k4:Int)) (k6:Int)) λz3=>some (.nx (z3.2,z3.1)) else some (.nx (s23,false)) else some (.nx (s23,false))) λ(s24,s25)=>if s25 then xH (ap s22 ([(B0.mk (k5:Int) (1+(k4:Int)) (k6:Int))])) λz4=>some (.go (z4,s24)) else some (.go (s22,s24))) ((V:Nat):Int).toNat 0 (s20,s21)) λ(s26,s27)=>some (.go (s26,s27))) (1+(k4:Int)).toNat 0 (s18,s19)) λ(s28,s29)=>some (.go (s28,s29))) (((V:Nat):Int) - 1).toNat 0 (s.1,s.2.2))
  (xWu (λs s'=>s'=(s.1,s.2.2)/\QInv U V B T (λ_ _ _=>True) s) (λ_ _=>False)):=by
 obtain⟨m,rfl⟩:∃ m,V=m+1:=⟨V - 1,xG⟩;rw[show(((m+1:Nat):Int)).toNat=m+1 by omega,show(((m+1:Nat):Int) - 1).toNat=m by omega];obtain⟨o,c,L⟩:=s;rw[zQ (s':=(o,c,L)) (k:=0) rfl];refine bY.mono (bY.forI 1 (λn s s'=>s'=(s.1,s.2.2)/\QInv U (m+1) B T (λi j k=>j<n+1) s) (λ_ _=>False) (k:=0) ⟨rfl,I.mono (λi j k h1 _ _ _ _ h=>xG)⟩ (λj s s' hj0 hj hR=>?_)) (λa a' h=>?_)
 ·obtain⟨o1,c1,L1⟩:=s
  obtain⟨rfl,I1⟩:=hR;have qd:(1:Int)+(j:Int)=((j+1:Nat):Int):=xG;simp only[qd];rw[show(((j+1:Nat):Int)).toNat=j+1 by omega];refine bY.thn (λs s'=>s'=(s.1,s.2.2)/\QInv U (m+1) B T (λi' j' k=>j'<j+2) s) (λ_ _=>False) (bY.mono (bY.forI 0 (λn s s'=>s'=(s.1,s.2.2)/\QInv U (m+1) B T (λi' j' k=>j'<j+1∨(j'=j+1/\i'<n)) s) (λ_ _=>False) (k:=0) ⟨rfl,I1.mono (λi' j' k h1 _ _ _ _ h=>xG)⟩ (λi s s' hi0 hi hR=>?_)) (λa a' h=>?_)) (λa a' h=>?_) (λ_ _ h=>h.elim)
  ·obtain⟨o2,c2,L2⟩:=s
   obtain⟨rfl,I2⟩:=hR;simp only[Cd];refine bY.thn (λs s'=>s'=(s.1,s.2.2)/\QInv U (m+1) B T (λi' j' k=>j'<j+1∨(j'=j+1/\i'<i+1)) s) (λ_ _=>False) (bY.mono (bY.forI 0 (λn s s'=>s'=(s.1,s.2.2)/\QInv U (m+1) B T (λi' j' k=>j'<j+1∨(j'=j+1/\(i'<i∨i'=i/\k<n))) s) (λ_ _=>False) (k:=0) ⟨rfl,I2.mono (λi' j' k h1 _ _ _ _ h=>xG)⟩ (λk s s' hk0 hk hR=>?_)) (λa a' h=>?_)) (λa a' h=>?_) (λ_ _ h=>h.elim)
   ·obtain⟨o3,c3,L3⟩:=s
    obtain⟨rfl,I3⟩:=hR;simp only[Cd,hu]
    by_cases qa:k=i
    ·have h1:((k:Int) != (i:Int))=false:=by simp [qa]
     simp only[h1,Ah,if_false,thn_nx];refine bY.s ⟨rfl,I3.mono (λi' j' k' h1 h2 h3 h4 h5 h=>xG)⟩
    ·have h1:((k:Int) != (i:Int))=true:=by simp;omega
     by_cases qc:k=j+1
     ·have h2:((k:Int) != ((j+1:Nat):Int))=false:=by simp [qc]
      simp only[h1,h2,Ah,if_false,if_true,thn_nx];refine bY.s ⟨rfl,I3.mono (λi' j' k' h1 h2 h3 h4 h5 h=>xG)⟩
     ·have h2:((k:Int) != ((j+1:Nat):Int))=true:=by rw[bne_iff_ne];omega
      obtain⟨ch,L',n1,n2,n3,n4,n5⟩:=xTz (N:=N) I3.ok hV.2 (show i<j+1 by omega) xG (show k<m+1 by omega) qa qc hN;have hs:=I3.sum;have hg:=I3.ge;simp only at hs hg n4 n5;simp only[h1,h2,if_true,n1,n2,bnd_s,thn_nx]
      cases ch with
      | false=>
       obtain⟨rfl,hc⟩:=n4 rfl;simp only[Ah,if_false];refine bY.s ⟨rfl,I3.ok,I3.sum,I3.ge,I3.yes,I3.no,λhf i' j' k' h1 h2 h3 h4 h5 h=>?_⟩
       by_cases he:i'=i/\j'=j+1/\k'=k
       ·obtain⟨rfl,rfl,rfl⟩:=he
        exact hc
       ·exact I3.con hf i' j' k' h1 h2 h3 h4 h5 xG
      | true=>
       have ht:=n5 rfl;simp only[if_true];rw[aC (by simp only[Ao,Bh];omega),bnd_s,bnd_s];refine bY.s ⟨rfl,n3,?_,?_,λ_=>?_,λh=>(nomatch h),λh=>(nomatch h)⟩
       ·show(o3++[_]).length+xCa L'<=T
        rw[Ar,Am];omega
       ·show B<=(o3++[_]).length
        rw[Ar,Am];omega
       ·show B<(o3++[_]).length
        rw[Ar,Am];omega
   ·cases a<;>cases a'<;>first | exact⟨h.1,h.2.mono (λi' j' k' h1 h2 h3 h4 h5 h=>xG)⟩ | exact h
   ·obtain⟨o3,c3,L3⟩:=a
    obtain⟨rfl,h⟩:=h;exact bY.s ⟨rfl,h⟩
  ·cases a<;>cases a'<;>first | exact⟨h.1,h.2.mono (λi' j' k' h1 h2 h3 h4 h5 h=>xG)⟩ | exact h
  ·obtain⟨o3,c3,L3⟩:=a
   obtain⟨rfl,h⟩:=h;exact bY.s ⟨rfl,h⟩
 ·cases a<;>cases a'<;>first | exact⟨h.1,h.2.mono (λi' j' k' h1 h2 h3 h4 h5 h=>xG)⟩ | exact h
def xQr (U V:Nat) (L:List Rel):Prop:=∀ i j k,i<j->j<V->k<V->k≠i->k≠j->oBz U L i j k
theorem xMv {N U V:Nat} {u:A6} {y:A7} (hu:TV U u) (hy:y.cons.length<=24) (hC:∀ c∈y.cons,CV u y.vars c) (hV:y.vars=V) (qc:1<=V/\V<=10) (hN:1100<=N) :
 ∃ L0 L out,mD N u y=some L0/\jU N u y=some (L,out)/\iH N u y L0=some (out,L)/\C0 U V L/\xQr U V L/\out.length<=1000:=by
 obtain⟨L0,L0',f1,f2,rfl,qd⟩:=xXn (N:=N) hu hy hC hV qc xG;have hT0:=xUx L0 qd.r;have htr:=xUa qc.2;have hlen:=qd.len;obtain⟨T,qe⟩:∃ T,T=xCa L0:=⟨_,rfl⟩
 have key:bY (jU N u y) (iH N u y L0) (λr r'=>r'=(r.2,r.1)/\C0 U V r.1/\xQr U V r.1/\r.2.length<=1000):=by
  unfold jU iH
  have f1':gZ N (A6.mk u.size u.rels) (A7.mk y.vars y.cons)=some L0:=f1;rw[f1',bnd_s,hV];refine bY.thn (λt t'=>t'.1=t.1/\t'.2.2=t.2.2/\C0 U V t.2.2/\xQr U V t.2.2/\t.1.length<=1000) (λr r'=>False) (bY.whl (λs s'=>∃ bf:Int,s'=(s.1,bf,s.2.2)/\(s.2.1=true↔bf≠(s.1.length:Int))/\C0 U V s.2.2/\s.1.length+xCa s.2.2<=T/\(s.2.1=false->xQr U V s.2.2)) _ _ (λs=>xCa s.2.2+(if s.2.1 then 1 else 0)) ?_ ⟨-1,rfl,⟨λ_=>vK,λ_=>rfl⟩,qd,by simp [qe],λh=>nomatch h⟩ (λs s' hR=>?_)) (λt t' h=>?_) (λr r' h=>h.elim)
  ·simp only[if_true];omega
  ·obtain⟨out,ch,L⟩:=s
   obtain⟨bf,rfl,hb,ok,hs,hp⟩:=hR;simp only at hb ok hs hp ⊢
   cases ch with
   | false=>
    have qf:bf=(out.length:Int):=by
     by_cases h:bf=(out.length:Int)
     ·exact h
     ·exact absurd (hb.2 h) vK
    rw[if_neg vK,if_neg (by simp [qf])];exact bY.s ⟨rfl,rfl,ok,hp rfl,by show out.length<=1000;omega⟩
   | true=>
    rw[if_pos rfl,if_pos (by simpa using hb.1 rfl)];have qg:=xZc (N:=N) (V:=V) (B:=out.length) (T:=out.length+xCa L) (u:=u) (ρ:=(Ctl ((List B0)×Bool×(List Rel)) ((List Rel)×(List B0)))) (ρ':=(Ctl ((List B0)×Int×(List Rel)) ((List B0)×(List Rel)))) hu.s qc xG hN (s:=(out,false,L)) ⟨ok,Az _,Az _,(λh=>nomatch h),λ_=>rfl,λ_ _ _ _ _ _ _ _ _ h=>h.elim⟩;refine bY.thn (λs s'=>s'=(s.1,s.2.2)/\QInv U V out.length (out.length+xCa L) (λ_ _ _=>True) s) (λr r'=>False) qg (λa b h=>?_) (λr r' h=>h.elim);obtain⟨o3,c3,L3⟩:=a;obtain⟨rfl,h⟩:=h;have h6:=h.sum;have h7:=h.ge;simp only at h h6 h7 ⊢;refine bY.s ⟨⟨(out.length:Int),rfl,?_,h.ok,(show o3.length+xCa L3<=T by omega),λhc=>λi j k h1 h2 h3 h4 h5=>h.con hc i j k h1 h2 h3 h4 h5 trivial⟩,?_⟩
    ·constructor
     ·intro hc;have:=h.yes hc;show(out.length:Int)≠(o3.length:Int);simp only at this;omega
     ·intro hc
      change (out.length:Int)≠(o3.length:Int) at hc
      cases qa:c3 with
      | true=>rfl
      | false=>have:=h.no qa;simp only at this;exact absurd xG hc
    ·cases qa:c3 with
     | true=>have:=h.yes qa;simp only at this;simp only[if_true];omega
     | false=>have:=h.no qa;simp only at this;simp only[Ah,if_false,if_true];omega
  ·obtain⟨h1,h2,h3,h4,h5⟩:=h
   obtain⟨o,c,d⟩:=t;obtain⟨o',c',d'⟩:=t';simp only at h1 h2 h3 h4 h5 ⊢;subst h1 h2;exact bY.s ⟨rfl,h3,h4,h5⟩
 obtain⟨r,r',k1,k2,rfl,k3,k4,k5⟩:=key;exact⟨L0,r.1,r.2,f2,k1,k2,k3,k4,k5⟩
end
section
theorem xTd {ρ:Type} {r:ρ} {V:Nat} (p:Nat->Bool) {b:Int->Option (Ctl Int ρ)} (h1:∀ q:Nat,1<=q->q<V->b (q:Int)=some (if p q then .go ((q+1:Nat):Int) else .ret r)) (h2:b (V:Int)=some (.brk (V:Int))):∀ (m q N:Nat),q+m=V->1<=q->m<N->lF b N (q:Int)=some (if (List.range' q m).all p then .nx (V:Int) else .ret r)
 | 0,q,N,h,hq,hN=>by
  obtain⟨M,rfl⟩:∃ M,N=M+1:=⟨N - 1,xG⟩;obtain rfl:q=V:=xG;rw[bU h2];rfl
 | m+1,q,N,h,hq,hN=>by
  obtain⟨M,rfl⟩:∃ M,N=M+1:=⟨N - 1,xG⟩;have h0:=h1 q hq xG;rw[Dw,List.all_cons]
  cases hp:p q with
  | true=>
   rw[hp] at h0;rw[eF h0,xTd p h1 h2 m (q+1) M xG xG xG,Dh]
  | false=>rw[hp] at h0;rw[wP h0];rfl
theorem xVm {ρ:Type} (p:Nat->Bool) {b:Nat->Bool->Option (Ctl Bool ρ)} (h:∀ k s,b k s=some (.go (s || p k))):∀ (m k:Nat) (s:Bool),qU b m k s=some (.nx (s || (List.range' k m).any p))
 | 0,k,s=>by simp [qU]
 | m+1,k,s=>by rw[zQ (h k s),xVm p h m (k+1),Dw,Ea,Bool.or_assoc]
theorem xYq (T:Nat) (p:Int->Bool):(pX 0 T).any p=(List.range' 0 T).any λv=>p (v:Int):=by
 unfold pX
 rw[List.any_map,List.range_eq_range']
 congr 1
 funext v
 simp
def xTp (T V:Nat) (L:List Rel) (vals:List Int) (v:Int):Bool:= if vals.length=0 then (List.range' 1 (V - 1)).all λq=>(List.range' 0 T).any λw=>lfB L 0 q v (w:Int) else (List.range' 0 vals.length).all λk=>lfB L k vals.length (vals.getD k 0) v
theorem xRh {N T V:Nat} {L:List Rel} {vals:List Int} (h:C0 T V L) (hT:1<=T/\T<=4) (hV:2<=V/\V<=10) (hl:vals.length<V) (hN:1100<=N) (v:Int) :
    dQ N v (vals.length:Int) (T:Int) (V:Int) L vals=some (xTp T V L vals v)/\gN N (T:Int) (V:Int) L vals v=some (xTp T V L vals v):=by
  by_cases h0:vals.length=0
  · obtain rfl:=Cc.1 h0
    have e1:xTp T V L [] v=(List.range' 1 (V - 1)).all λq=>(List.range' 0 T).any λw=>lfB L 0 q v (w:Int):=rfl;rw[e1]
    constructor
    · unfold dQ
      rw[if_pos (by rfl),xMc]
      unfold xAc
      rw[show(1:Int)=((1:Nat):Int) from rfl,xTd (V:=V) (r:=false) (λq=>(List.range' 0 T).any λw=>lfB L 0 q v (w:Int)) (λq hq qe=>by
        rw[if_pos (by simp;omega),xJr xG xG,bnd_s,sW _ (λw=>lfB L 0 q v w) _ (λw=>by
          unfold tI
          have:=(mW h hV.2 (show 0<V by omega) qe xG v w hN).1;rw[show((0:Nat):Int)=0 from rfl] at this
          rw[this,bnd_s]),bnd_s,xYq]
        cases (List.range' 0 T).any λw=>lfB L 0 q v (w:Int) with
        | true=>rw[if_neg vK,zO xG xG,bnd_s];rfl
        | false=>rfl) (by rw[if_neg vK]) (V - 1) 1 N xG (Az _) xG]
      cases ((List.range' 1 (V - 1)).all λq=>(List.range' 0 T).any λw=>lfB L 0 q v (w:Int))<;>rfl
    · unfold gN
      rw[show ∀ f:Nat->Int->Unit->Option (Ctl Unit Bool),oM f [] 0 ()=some (.nx ()) from λf=>rfl,thn_nx]
      rw[show(1:Int)=((1:Nat):Int) from rfl,xTd (V:=V) (r:=false) (λq=>(List.range' 0 T).any λw=>lfB L 0 q v (w:Int)) (λq hq qe=>by
        rw[if_pos (by simp;omega),thn_nx,if_pos (by rfl),Ad,xVm (λw=>lfB L 0 q v (w:Int)) (λk s=>by
          have:=(mW h hV.2 (show 0<V by omega) qe xG v (k:Int) hN).2;rw[show((0:Nat):Int)=0 from rfl] at this
          cases s with
          | true=>rfl
          | false=>simp only[Ah,if_false,this,bnd_s,thn_nx,En]),thn_nx,En]
        cases (List.range' 0 T).any λw=>lfB L 0 q v (w:Int) with
        | true=>rw[if_neg vK,zO xG xG,bnd_s];rfl
        | false=>rfl) (by rw[if_neg vK,thn_nx];rfl) (V - 1) 1 N xG (Az _) xG]
      cases ((List.range' 1 (V - 1)).all λq=>(List.range' 0 T).any λw=>lfB L 0 q v (w:Int))<;>rfl
  · have e1:xTp T V L vals v=(List.range' 0 vals.length).all λk=>lfB L k vals.length (vals.getD k 0) v:=by unfold xTp;rw[if_neg h0]
    rw[e1];have qa:∀ k:Nat,k<vals.length->gI N L (k:Int) (vals.length:Int) (vals.getD k 0) v=some (lfB L k vals.length (vals.getD k 0) v)/\aS L (k:Int) (vals.length:Int) (vals.getD k 0) v=some (lfB L k vals.length (vals.getD k 0) v):=λk hk=>mW h hV.2 (show k<V by omega) hl xG _ v hN;have qc:∀ k x,vals[k]?=some x->vals.getD k 0=x:=λk x hx=>kP hx
    have qd:∀ (n:Nat) (p:Nat->Bool),(if (List.range' 0 n).any (λk=>!p k) then Out.ret false else Out.nx ())=(if (List.range' 0 n).all p then Out.nx () else Out.ret (σ:=Unit) (ρ:=Bool) false):=λn p=>by
      rw[<- Eu]
      cases (List.range' 0 n).all p<;>rfl
    constructor
    · unfold dQ
      rw[if_neg (by rw[De];omega),Ad,wW (λk=>!lfB L k vals.length (vals.getD k 0) v) false vals.length 0 (λk _ hk=>by
        have hx:vals[k]?=some (vals[k]'(xG)):=Aa xG;have hg:=qc k _ hx;simp only;rw[vD hx,bnd_s,<- hg,(qa k xG).1,bnd_s]
        cases lfB L k vals.length (vals.getD k 0) v<;>rfl),qd]
      cases ((List.range' 0 vals.length).all λk=>lfB L k vals.length (vals.getD k 0) v)<;>rfl
    · unfold gN
      rw[<- nH (f:=λ(k1:Nat) (s:Unit)=>xH (aS L (k1:Int) (vals.length:Int) (vals.getD k1 0) v) λz1=>if (!z1) then some (.ret false) else some (.go ())) vals 0 0 () (λj x s hj=>by
        rw[Bn,qc j x hj])]
      rw[wW (λk=>!lfB L k vals.length (vals.getD k 0) v) false vals.length 0 (λk _ hk=>by
        rw[(qa k xG).2,bnd_s]
        cases lfB L k vals.length (vals.getD k 0) v<;>rfl),qd]
      obtain⟨M,rfl⟩:∃ M,N=M+1:=⟨N - 1,xG⟩
      cases ((List.range' 0 vals.length).all λk=>lfB L k vals.length (vals.getD k 0) v) with
      | false=>rfl
      | true=>
        rw[if_pos rfl,thn_nx,bU (s':=1) (by
          have:((vals.length:Int)==0)=false:=by rw[Ds];omega
          rw[if_pos (by simp;omega),this,thn_nx];rfl)]
        rfl
end
section
theorem xOu {ρ:Type} {T:Nat} {F:Nat->Bool} {f:Int->Option Bool} (hf:∀ v:Nat,v<T->f (v:Int)=some (F v)) {b:Int->Option (Ctl Int ρ)} (h1:∀ v:Nat,v<T->b (v:Int)=some (if F v then .brk (v:Int) else .go ((v+1:Nat):Int))) (h2:b (T:Int)=some (.brk (T:Int))):∀ (m q N:Nat),q+m=T->m<N->
 ∃ j:Nat,j<=T/\lF b N (q:Int)=some (.nx (j:Int))/\oM (σ:=Unit) (ρ:=Int) (λk1 (x1:Int) s=>match s with | _=>xH (f x1) λz1=>if z1 then some (.ret ((k1:Int))) else some (.go ())) (pX (q:Int) m) q ()=some (if j<T then .ret (j:Int) else .nx ())
 | 0,q,N,h,hN=>by
  obtain⟨M,rfl⟩:∃ M,N=M+1:=⟨N - 1,xG⟩;obtain rfl:q=T:=xG;refine⟨q,Az _,bU h2,?_⟩;rw[if_neg xG];rfl
 | m+1,q,N,h,hN=>by
  obtain⟨M,rfl⟩:∃ M,N=M+1:=⟨N - 1,xG⟩;have h0:=h1 q xG;have qa:=hf q xG;rw[xGv]
  cases hp:F q with
  | true=>
   rw[hp] at h0 qa;refine⟨q,xG,bU h0,?_⟩;rw[fE (r:=(q:Int)) (by simp only[qa,bnd_s];rfl),if_pos xG]
  | false=>
   rw[hp] at h0 qa;obtain⟨j,j1,j2,j3⟩:=xOu hf h1 h2 m (q+1) M xG xG;refine⟨j,j1,by rw[eF h0];exact j2,?_⟩;rw[vS (s':=()) (by simp only[qa,bnd_s];rfl)];rw[show(q:Int)+1=((q+1:Nat):Int) by omega];exact j3
theorem xTl {N T V:Nat} {L:List Rel} (h:C0 T V L) (hT:1<=T/\T<=4) (hV:2<=V/\V<=10) (hN:1100<=N):∃ r,uY N (T:Int) (V:Int) L=some r/\pK N (T:Int) (V:Int) L=some r/\r.1.length<=1000:=by
 unfold uY pK
 rw[Ad]
 have key:∀ (m k:Nat) (vals:List Int),vals.length=k->k+m=V->∃ o:Out (List Int) ((List Int)×Bool),
  qU (σ:=List Int) (ρ:=(List Int)×Bool) (λk1 s1=>xH (rD 0 (T:Int)) λz1=>xH (qK z1 (λa0=>dQ N a0 (k1:Int) (T:Int) (V:Int) L s1)) λz2=>if (decide (z2<0)) then some (.ret ([],false)) else xH (ap s1 ([z2])) λz3=>some (.go z3)) m k vals=some o ∧
  qU (σ:=List Int) (ρ:=(List Int)×Bool) (λk2 s2=>qD (σ:=Int) (lF (λs3=>qD (σ:=Bool) (if (decide (s3<(T:Int))) then xH (gN N (T:Int) (V:Int) L s2 s3) λz4=>some (.nx (!z4)) else some (.nx false)) λs4=>if s4 then xH (ck (s3+1)) λz5=>some (.go z5) else some (.brk s3)) N 0) λs5=>if (s5==(T:Int)) then some (.ret ([],false)) else xH (ap s2 ([s5])) λz6=>some (.go z6)) m k vals=some o/\(match o with | .nx l=>l.length | .ret r=>r.1.length)<=1000:=by
  intro m
  induction m with
  | zero=>intro k vals _ _;exact⟨.nx vals,rfl,rfl,by show vals.length<=1000;omega⟩
  | succ m ih=>
   intro k vals hk hkm
   obtain⟨j,j1,j2,j3⟩:=xOu (ρ:=(Ctl ((List Int)) ((List Int)×Bool))) (T:=T) (F:=λv=>xTp T V L vals (v:Int)) (f:=λa0=>dQ N a0 (k:Int) (T:Int) (V:Int) L vals) (λv _=>by
    have:=(xRh (vals:=vals) h hT hV xG hN (v:Int)).1;rw[hk] at this;exact this) (b:=λ(s3:Int)=>qD (σ:=Bool) (if (decide (s3<(T:Int))) then xH (gN N (T:Int) (V:Int) L vals s3) λz4=>some (.nx (!z4)) else some (.nx false)) λs4=>if s4 then xH (ck (s3+1)) λz5=>some (.go z5) else some (.brk s3)) (λv hv=>by
    rw[if_pos (by simp;omega),(xRh (vals:=vals) h hT hV xG hN (v:Int)).2,bnd_s,thn_nx]
    cases xTp T V L vals (v:Int) with
    | true=>rfl
    | false=>
     simp only[Co,if_true];rw[zO xG xG,bnd_s]
     rfl) (by rw[if_neg vK,thn_nx];rfl) T 0 N xG xG
   have qa:qK (pX 0 T) (λa0=>dQ N a0 (k:Int) (T:Int) (V:Int) L vals)=some (if j<T then (j:Int) else -1):=by
    unfold qK
    rw[show((0:Nat):Int)=0 from rfl] at j3;rw[j3]
    split<;>rfl
   by_cases hj:j<T
   ·rw[if_pos hj] at qa
    have qc:ap vals [(j:Int)]=some (vals++[(j:Int)]):=aC (by simp only[Am];omega);obtain⟨o,o1,o2,o3⟩:=ih (k+1) (vals++[(j:Int)]) (by simp [hk]) xG;refine⟨o,?_,?_,o3⟩
    ·rw[zQ (s':=vals++[(j:Int)]) (by rw[xJr xG xG,bnd_s,qa,bnd_s,if_neg vK,qc,bnd_s])]
     exact o1
    ·rw[zQ (s':=vals++[(j:Int)]) (by
      rw[show((0:Nat):Int)=0 from rfl] at j2
      rw[j2,thn_nx,if_neg (by rw[De];omega),qc,bnd_s])]
     exact o2
   ·rw[if_neg hj] at qa
    obtain rfl:j=T:=xG;refine⟨.ret ([],false),?_,?_,Bi _⟩
    ·rw[lK (r:=([],false)) (by rw[xJr xG xG,bnd_s,qa,bnd_s];rfl)]
    ·rw[lK (r:=([],false)) (by
      rw[show((0:Nat):Int)=0 from rfl] at j2
      rw[j2,thn_nx,if_pos vK])]
 obtain⟨o,o1,o2,o3⟩:=key V 0 [] rfl xG;rw[o1,o2]
 cases o with
 | nx s=>exact⟨_,rfl,rfl,o3⟩
 | ret r=>exact⟨_,rfl,rfl,o3⟩
theorem oFr (L:List Rel):sS L=some (L.any λr=>(r.tuples.length:Int)==0):=by
 unfold sS
 have:∀ (l:List Rel) (k:Nat),qD (oM (σ:=Unit) (ρ:=Bool) (λk1 (x1:Rel) s=>match s with | _=>if ((x1.tuples.length:Int)==0) then some (.ret true) else some (.go ())) l k ()) (λ_=>some false)=some (l.any λr=>(r.tuples.length:Int)==0):=by
  intro l
  induction l with
  | nil=>intro k;rfl
  | cons d l ih=>
   intro k
   by_cases h:((d.tuples.length:Int)==0)=true
   ·rw[fE (r:=true) (by simp only[h,if_true])]
    simp [h,qD]
   ·rw[vS (s':=()) (by simp only[h];rfl),ih (k+1)]
    have h':((d.tuples.length:Int)==0)=false:=vV h;rw[Ea,h',En]
 exact this L 0
theorem oCj {N T m:Nat} {t:A6} {x:A7} {o:Op} (ht:lV t) (hi:sO t x=true) (hu:TV T t) (ho:B9 T o m) (hN:1100<=N):∃ r,fC N t x o=some r/\fI N t x o=some r/\VB r.1:=by
 have qa:=hu.t;obtain⟨e,e1,e2,e3⟩:=xOr (N:=N) (k:=7) ht hi ho (.inr rfl) hu hN
 unfold fC fI
 rw[show A6.mk t.size t.rels=t from rfl,show A7.mk x.vars x.cons=x from rfl,show Op.mk o.arity o.table=o from rfl,e1,e2,bnd_s,bnd_s]
 by_cases h0:e=0
 ·subst h0
  obtain⟨hv,hy,hC⟩:=xJm hi;simp only[show((0:Int) != 0)=false from rfl,Ah,if_false]
  by_cases h1:x.vars=1
  ·obtain⟨r,a1,a2,a3,a4,a5,a6⟩:=xOg hu hv hC hN
   have g:=xTa r.2
   have hb:(x.vars==1)=true:=by simp [h1]
   simp only[hb,if_true];rw[xOb hu hv,xNw hu hv,bnd_s,bnd_s,a1,a2,bnd_s,bnd_s,g.2,bnd_s]
   obtain⟨d,hd⟩:∃ d,r.2=[d]:=by
    rw[h1] at a3
    match hr:r.2 with
    | []=>rw[hr] at a3;cases a3
    | [d]=>exact⟨d,rfl⟩
    | _::_::_=>rw[hr] at a3;simp at a3
   rw[hd,show ix [d] 0=some d from rfl,bnd_s,bnd_s]
   match d with
   | []=>exact⟨_,rfl,rfl,Bi _,(show r.1.length<=1000 by omega),Bi _,Bi _⟩
   | a::d=>
    have hs:sl (a::d) 0 1=some [a]:=by
     unfold sl
     rw[if_pos ⟨xG,xG,by simp only[Ao];omega⟩]
     simp
    have hz:(((a::d).length:Int)==0)=false:=by rw[Ds,Ao];omega
    rw[if_neg (by rw[hz];simp),hs,bnd_s,Ea,hz,List.any_nil,if_neg vK,show ix (a::d) 0=some a from rfl,bnd_s];exact⟨_,rfl,rfl,VB.vals vK⟩
  ·obtain⟨V,hV⟩:∃ V:Nat,x.vars=(V:Int):=⟨x.vars.toNat,xG⟩
   obtain⟨L0,L,out,p1,p2,p3,p4,p5,p6⟩:=xMv (N:=N) hu hy hC hV xG hN
   have hb:(x.vars==1)=false:=by simp [h1]
   simp only[hb,Ah,if_false];rw[p1,p2,bnd_s,bnd_s,p3,bnd_s];rw[sZ L (λr=>(r.tuples.length:Int)==0) (λa0=>nY a0) (λr _=>rfl),bnd_s,oFr,bnd_s]
   by_cases hn:(L.any λr=>(r.tuples.length:Int)==0)=true
   ·rw[if_pos hn,if_pos hn];exact⟨_,rfl,rfl,Bi _,Bi _,p6,Bi _⟩
   ·obtain⟨r,g1,g2,g3⟩:=xTl (N:=N) p4 qa xG hN
    rw[if_neg hn,if_neg hn,hu.s,hV,g1,g2,bnd_s]
    cases (!r.2) with
    | true=>exact⟨_,rfl,rfl,VB.nil⟩
    | false=>exact⟨_,rfl,rfl,VB.vals g3⟩
 ·rw[if_pos (by simp [h0]),if_pos (by simp [h0])]
  exact⟨_,rfl,rfl,VB.nil⟩
end
section
variable {T:Nat}
def xTk (T:Nat) (l:List Int):Int:=(l.getD 0 0 - l.getD 1 0+l.getD 2 0+T).tmod T
def xIx (T:Nat):Op:=⟨3,(List.range' 0 (T ^ 3)).map λk=>xTk T (dig T 3 k)⟩
def oLo (l:List Int) (T:Int):Option Int:= xH (ix l 0) λz1=>xH (ix l 1) λz2=>xH (ck (z1 - z2)) λz3=>xH (ix l 2) λz4=>xH (ck (z3+z4)) λz5=>xH (kX z5 T) λz6=>some z6
set_option synthInstance.maxHeartbeats 400000 in
set_option synthInstance.maxSize 1000 in
theorem oGu:∀ T:Nat,T<5->∀ k:Nat,k<T ^ 3->1<=T->sA (dig T 3 k) (T:Int)=some (xTk T (dig T 3 k))/\oLo (dig T 3 k) (T:Int)=some (xTk T (dig T 3 k))/\0<=xTk T (dig T 3 k)/\xTk T (dig T 3 k)<(T:Int):=by decide +kernel
theorem oJy (qa:1<=T/\T<=4):B9 T (xIx T) 3:=by
 refine⟨rfl,xG,xG,?_,?_⟩
 ·unfold xIx;simp
 ·intro a ha
  unfold xIx at ha
  simp only[Cy,List.mem_range'_1] at ha;obtain⟨k,hk,rfl⟩:=ha;exact(oGu T xG k xG qa.1).2.2
theorem cub:∀ T:Nat,T<5->ck ((T:Int)*(T:Int))=some ((T*T:Nat):Int)/\ck (((T*T:Nat):Int)*(T:Int))=some ((T ^ 3:Nat):Int)/\T ^ 3<=64:=by decide +kernel
theorem xSp {N:Nat} (qa:1<=T/\T<=4) (hN:10<=N):iO N (T:Int)=some (xIx T):=by
 have hc:=cub T xG;have hp:vO (T:Int) 3=some ((T ^ 3:Nat):Int):=(sX (N:=N) qa (n:=3) xG hN).1
 unfold iO yG
 rw[hp,bnd_s,Ad]
 rw[rU (n:=T ^ 3) (λk=>xTk T (dig T 3 k)) (λi s hi hs=>by
  have hd:qX N (T:Int) 3 (i:Int)=some (dig T 3 i):=(uD (N:=N) qa (m:=3) xG hi hN).1;rw[hd,bnd_s];simp only
  rw[(oGu T xG i hi qa.1).1,bnd_s,aC (by simp only[Am];omega),bnd_s]) (T ^ 3) 0 [] rfl xG]
 rfl
theorem xRo {N:Nat} (qa:1<=T/\T<=4) (hN:10<=N):fX N (T:Int)=some (xIx T):=by
 have hc:=cub T xG
 unfold fX
 rw[hc.1,bnd_s,hc.2.1,bnd_s,Ad]
 rw[rU (n:=T ^ 3) (λk=>xTk T (dig T 3 k)) (λi s hi hs=>by
  have hd:qX N (T:Int) 3 (i:Int)=some (dig T 3 i):=(uD (N:=N) qa (m:=3) xG hi hN).1;have ha:=(oGu T xG i hi qa.1).2.1;rw[rM,hd,bnd_s]
  unfold oLo at ha
  have key:∀ (l:List Int) (T v:Int) (s:List Int),s.length<=1000->(xH (ix l 0) λz1=>xH (ix l 1) λz2=>xH (ck (z1 - z2)) λz3=>xH (ix l 2) λz4=>xH (ck (z3+z4)) λz5=>xH (kX z5 T) λz6=>some z6)=some v->(xH (ix l 0) λz1=>xH (ix l 1) λz2=>xH (ck (z1 - z2)) λz3=>xH (ix l 2) λz4=>xH (ck (z3+z4)) λz5=>xH (kX z5 T) λz6=>xH (ap s ([z6])) λz7=>some (.go z7))=some (Ctl.go (ρ:=Op) (s++[v])):=by
   intro l T v s hs h;obtain⟨a,ea,h⟩:=bP h;obtain⟨b,eb,h⟩:=bP h;obtain⟨c,ec,h⟩:=bP h;obtain⟨d,ed,h⟩:=bP h;obtain⟨e,ee,h⟩:=bP h;obtain⟨f,ef,h⟩:=bP h
   cases h
   rw[ea,bnd_s,eb,bnd_s,ec,bnd_s,ed,bnd_s,ee,bnd_s,ef,bnd_s,aC (by simp only[Am];omega),bnd_s]
  exact key _ _ _ s xG ha) (T ^ 3) 0 [] rfl xG]
 rfl
def yH (N T:Nat) (r:Rel):Bool:=decide (0<(r.tuples.length:Int)) && fS N T (xIx T) r
theorem xMo {N:Nat} {u:A6} {r:Rel} (hu:TV T u) (hr:r∈u.rels) (hN:10<=N):fQ N (T:Int) r=some (yH N T r)/\gM N (T:Int) r=some (yH N T r):=by
 have qa:=hu.t;have hk:=xHs hN hu.t (hu.r r hr) (oJy qa)
 unfold fQ gM yH
 rw[xSp qa hN,xRo qa hN]
 by_cases h:0<(r.tuples.length:Int)
 ·simp only[h,decide_true,if_true,bnd_s,Dh]
  have e1:eM N (T:Int) (Op.mk (xIx T).arity (xIx T).table) (Rel.mk r.arity r.tuples)=some (fS N T (xIx T) r):=hk.2;have e2:kT N (T:Int) (Op.mk (xIx T).arity (xIx T).table) r=some (fS N T (xIx T) r):=hk.1;rw[e1,e2];exact⟨rfl,rfl⟩
 ·simp only[h,decide_false,Ah,if_false,bnd_s,Bool.false_and]
  exact⟨rfl,rfl⟩
theorem nD (s:Int):gQ s=some (s==2 || s==3)/\fP s=some (s==2 || s==3):=by
 unfold gQ fP
 by_cases h:s=2
 ·subst h;exact⟨rfl,rfl⟩
 ·have h':(s==2)=false:=by simp [h]
  rw[h'];exact⟨rfl,rfl⟩
end
section
theorem xGa {ρ:Type} (f:Int->Int->Int) (A X:Int->Prop) {b:Nat->Int->List Int->Option (Ctl (List Int) ρ)} (hb:∀ k x (s:List Int) a,s[k]?=some a->A a->X x->b k x s=some (.go (s.set k (f a x)))):∀ (m l pre:List Int),l.length=m.length->(∀ a∈l,A a)->(∀ x∈m,X x)->oM b m pre.length (pre++l)=some (.nx (pre++List.zipWith f l m))
 | [],[],pre,_,_,_=>vK
 | [],_::_,pre,h,_,_=>by simp at h
 | _::_,[],pre,h,_,_=>by simp at h
 | x::m,a::l,pre,h,hA,hX=>by
  rw[vS (hb pre.length x (pre++a::l) a vK (hA a (Bg ..)) (hX x (Bg ..)))];have e:(pre++a::l).set pre.length (f a x)=(pre++[f a x])++l:=vK;have ih:=xGa f A X hb m l (pre++[f a x]) (vV h) (λb hb=>hA b (At _ hb)) (λy hy=>hX y (At _ hy));rw[Ar,Am] at ih;rw[e,ih]
  simp
def gB (p a:Int):Prop:=0<=a/\a<p
structure C1 (p:Int) (n m:Nat) (r:rowT) (x:B2):Prop where
  num:r.numbers=x.left++[x.right]
  by':r.bys=x.bys
  nl:x.left.length=n
  ml:x.bys.length=m
  lb:∀ a∈x.left,gB p a
  rb:gB p x.right
  bb:∀ a∈x.bys,gB p a
def eC (p t a b:Int):Int:=(a+t*b).tmod p
theorem xPf {p t a b:Int} (hp:1<=p/\p<=3) (ht:0<=t/\t<=5) (ha:gB p a) (hb:gB p b):ck (t*b)=some (t*b)/\ck (a+t*b)=some (a+t*b)/\rm (a+t*b) p=some (eC p t a b)/\gB p (eC p t a b):=by
 have h1:0<=t*b:=Et ht.1 hb.1;have h2:t*b<=5*3:=Int.mul_le_mul ht.2 (by have:=hb.2;omega) hb.1 xG
 have h3:0<=a+t*b:=by have:=ha.1;omega
 refine⟨zO xG xG,zO xG (by have:=ha.2;omega),?_,?_⟩
 ·unfold rm eC;rw[if_neg xG]
 ·unfold eC gB
  rw[Cp h3];exact⟨Fb _ xG,Ek _ xG⟩
theorem wR {p t:Int} (hp:1<=p/\p<=3) (ht:0<=t/\t<=5):∀ {l m:List Int},(∀ a∈l,gB p a)->(∀ a∈m,gB p a)->∀ a∈List.zipWith (eC p t) l m,gB p a
 | [],_,_,_,a,h=>by simp at h
 | _::_,[],_,_,a,h=>by simp at h
 | x::l,y::m,hl,hm,a,h=>by
  rw[List.zipWith_cons_cons] at h
  rcases Av.1 h with rfl | h
  ·exact(xPf hp ht (hl x (Bg ..)) (hm y (Bg ..))).2.2.2
  ·exact wR hp ht (λa h=>hl a (At _ h)) (λa h=>hm a (At _ h)) a h
theorem xCn {l:List Int} (h:l.length<=1000):oV l=some l:=by unfold oV;rw[aC (by simp only[Bh];omega),bnd_s];rfl
theorem xIb {p t:Int} {n m:Nat} {r r':rowT} {x x':B2} (hp:1<=p/\p<=3) (ht:0<=t/\t<=5) (hn:n<=500) (hm:m<=500) (h:C1 p n m r x) (h':C1 p n m r' x') :
 bQ r p r' t=some ⟨List.zipWith (eC p t) x.left x'.left++[eC p t x.right x'.right],List.zipWith (eC p t) x.bys x'.bys⟩:=by
 have b1:∀ a∈r.numbers,gB p a:=λa ha=>by
  rw[h.num] at ha
  rcases Aj.1 ha with ha | ha
  ·exact h.lb a ha
  ·rw[Ay.1 ha];exact h.rb
 have b1':∀ a∈r'.numbers,gB p a:=λa ha=>by
  rw[h'.num] at ha
  rcases Aj.1 ha with ha | ha
  ·exact h'.lb a ha
  ·rw[Ay.1 ha];exact h'.rb
 have l1:r.numbers.length=n+1:=by rw[h.num,Ar,Am,h.nl]
 have l1':r'.numbers.length=n+1:=by rw[h'.num,Ar,Am,h'.nl]
 have l2:r.bys.length=m:=by rw[h.by',h.ml]
 have l2':r'.bys.length=m:=by rw[h'.by',h'.ml]
 unfold bQ
 rw[xCn xG,bnd_s,xCn xG,bnd_s]
 have key:∀ (ρ:Type) (k:Nat) (y:Int) (s:List Int) (a:Int),s[k]?=some a->gB p a->gB p y->(xH (ix s (k:Int)) λz1=>xH (ck (t*y)) λz2=>xH (ck (z1+z2)) λz3=>xH (rm z3 p) λz4=>some (.go (s.set ((k:Int)).toNat z4)))=some (Ctl.go (ρ:=ρ) (s.set k (eC p t a y))):=by
  intro ρ k y s a hs ha hy;obtain⟨c1,c2,c3,_⟩:=xPf hp ht ha hy;rw[vD hs,bnd_s,c1,bnd_s,c2,bnd_s,c3,bnd_s,Ad]
 have u1:=xGa (ρ:=rowT) (eC p t) (gB p) (gB p) (λk y s a=>key rowT k y s a) r'.numbers r.numbers [] xG b1 b1';rw[Bh,Bp,Bp] at u1;rw[u1,thn_nx];have u2:=xGa (ρ:=rowT) (eC p t) (gB p) (gB p) (λk y s a=>key rowT k y s a) r'.bys r.bys [] xG (by rw[h.by'];exact h.bb) (by rw[h'.by'];exact h'.bb);rw[Bh,Bp,Bp] at u2;rw[u2,thn_nx,h.num,h'.num,h.by',h'.by',List.zipWith_append (by rw[h.nl,h'.nl])]
 rfl
end
section
variable {p:Int} {z:Int}
def xVj (p z a b:Int):Option Int:=xH (ck (z*b)) λz1=>xH (ck (a - z1)) λz2=>xH (kX z2 p) λz3=>some z3
def xQc (p b a:Int):Option Int:=xH (ck (a*b)) λz1=>xH (rm z1 p) λz2=>some z2
set_option synthInstance.maxHeartbeats 400000 in
theorem oLz:∀ p:Nat,p<4->∀ z:Nat,z<p->∀ a:Nat,a<p->∀ b:Nat,b<p->xVj p z a b=some (eC p (p - z) a b):=by decide +kernel
theorem oHt:∀ p:Nat,p<4->∀ z:Nat,z<p->∀ a:Nat,a<p->1<=z->xQc p z a=some (eC p (z - 1+p) a a):=by decide +kernel
theorem oMi:∀ p:Nat,p<4->∀ a:Nat,a<p->∀ b:Nat,b<p->eC p p a b=a:=by decide +kernel
theorem gB.nat {a:Int} (h:gB p a):∃ k:Nat,a=(k:Int)/\k<p.toNat:=⟨a.toNat,by have:=h.1;omega,by have:=h.1;have:=h.2;omega⟩
theorem xZq {a b:Int} (hp:1<=p/\p<=3) (hz:gB p z) (ha:gB p a) (hb:gB p b):xVj p z a b=some (eC p (p - z) a b):=by
 obtain⟨z,rfl,qa⟩:=hz.nat;obtain⟨a,rfl,qc⟩:=ha.nat;obtain⟨b,rfl,qd⟩:=hb.nat;have:=oLz p.toNat xG z qa a qc b qd
 rwa [show((p.toNat:Nat):Int)=p by omega] at this
theorem xVx {a:Int} (hp:1<=p/\p<=3) (hz:gB p z) (h1:z≠0) (ha:gB p a):xQc p z a=some (eC p (z - 1+p) a a):=by
 obtain⟨z,rfl,qa⟩:=hz.nat;obtain⟨a,rfl,qc⟩:=ha.nat;have:=oHt p.toNat xG z qa a qc xG
 rwa [show((p.toNat:Nat):Int)=p by omega] at this
theorem oAw {a b:Int} (hp:1<=p/\p<=3) (ha:gB p a) (hb:gB p b):eC p p a b=a:=by
 obtain⟨a,rfl,qa⟩:=ha.nat;obtain⟨b,rfl,qc⟩:=hb.nat;have:=oMi p.toNat xG a qa b qc
 rwa [show((p.toNat:Nat):Int)=p by omega] at this
theorem xLm {p:Int} (hp:1<=p/\p<=3):∀ {l m:List Int},l.length=m.length->(∀ a∈l,gB p a)->(∀ a∈m,gB p a)->List.zipWith (eC p p) l m=l
 | [],[],_,_,_=>rfl
 | [],_::_,h,_,_=>by simp at h
 | _::_,[],h,_,_=>by simp at h
 | x::l,y::m,h,hl,hm=>by
  rw[List.zipWith_cons_cons,oAw hp (hl x (Bg ..)) (hm y (Bg ..)),xLm hp (vV h) (λa h=>hl a (At _ h)) (λa h=>hm a (At _ h))]
theorem xPa {ρ:Type} (hp:1<=p/\p<=3) (hz:gB p z) {l m:List Int} (hl:l.length=m.length) (hA:∀ a∈l,gB p a) (hB:∀ a∈m,gB p a):qU (σ:=List Int) (ρ:=ρ) (λk s=>xH (ix s (k:Int)) λa=>xH (ix m (k:Int)) λz'=>xH (ck (z*z')) λz1=>xH (ck (a - z1)) λz2=>xH (kX z2 p) λz3=>some (.go (s.set ((k:Int)).toNat z3))) l.length 0 l=some (.nx (List.zipWith (eC p (p - z)) l m)):=by
 rw[hl,nH (g:=λ(k:Nat) (z':Int) (s:(List Int))=>xH (ix s (k:Int)) λa=>xH (ck (z*z')) λz1=>xH (ck (a - z1)) λz2=>xH (kX z2 p) λz3=>some (.go (s.set ((k:Int)).toNat z3))) m 0 0 l (λj x s hj=>by
  rw[Bn,vD hj]
  rfl)]
 have u:=xGa (ρ:=ρ) (eC p (p - z)) (gB p) (gB p) (b:=λ(k:Nat) (z':Int) (s:(List Int))=>xH (ix s (k:Int)) λa=>xH (ck (z*z')) λz1=>xH (ck (a - z1)) λz2=>xH (kX z2 p) λz3=>some (.go (s.set ((k:Int)).toNat z3))) (λk y s a hs ha hy=>by
  have h:=xZq hp hz ha hy
  unfold xVj at h
  obtain⟨c,ec,h⟩:=bP h;obtain⟨d,ed,h⟩:=bP h;obtain⟨e,ee,h⟩:=bP h;simp only[vD hs,bnd_s,ec,ed,ee,Ad]
  rw[Option.some.inj h]) m l [] hl hA hB
 simpa using u
theorem oFy {n m:Nat} {r r':rowT} {x x':B2} (hp:1<=p/\p<=3) (hz:gB p z) (h:C1 p n m r x) (h':C1 p n m r' x') :
 cF x x' z p=some ⟨List.zipWith (eC p (p - z)) x.left x'.left,eC p (p - z) x.right x'.right,List.zipWith (eC p (p - z)) x.bys x'.bys⟩:=by
 unfold cF
 rw[xPa hp hz (by rw[h.nl,h'.nl]) h.lb h'.lb,thn_nx];have hv:=xZq hp hz h.rb h'.rb
 unfold xVj at hv
 obtain⟨c,ec,hv⟩:=bP hv;obtain⟨d,ed,hv⟩:=bP hv;obtain⟨e,ee,hv⟩:=bP hv;simp only[ec,ed,ee,bnd_s];rw[xPa hp hz (by rw[h.ml,h'.ml]) h.bb h'.bb,thn_nx,Option.some.inj hv]
theorem xKn {ρ:Type} (hp:1<=p/\p<=3) (hz:gB p z) (h0:z≠0) {l:List Int} (hA:∀ a∈l,gB p a):qU (σ:=List Int) (ρ:=ρ) (λk s=>xH (ix s (k:Int)) λa=>xH (ck (a*z)) λz1=>xH (rm z1 p) λz2=>some (.go (s.set ((k:Int)).toNat z2))) l.length 0 l=some (.nx (List.zipWith (eC p (z - 1+p)) l l)):=by
 have key:∀ (pre l:List Int),(∀ a∈l,gB p a)->qU (σ:=List Int) (ρ:=ρ) (λk s=>xH (ix s (k:Int)) λa=>xH (ck (a*z)) λz1=>xH (rm z1 p) λz2=>some (.go (s.set ((k:Int)).toNat z2))) l.length pre.length (pre++l)=some (.nx (pre++List.zipWith (eC p (z - 1+p)) l l)):=by
  intro pre l
  induction l generalizing pre with
  | nil=>intro _;simp [qU]
  | cons a l ih=>
   intro hA;have h:=xVx hp hz h0 (hA a (Bg ..))
   unfold xQc at h
   obtain⟨c,ec,h⟩:=bP h;obtain⟨d,ed,h⟩:=bP h;have hx:(pre++a::l)[pre.length]?=some a:=vK
   rw[Ao,zQ (s':=(pre++[eC p (z - 1+p) a a])++l) (by
    simp only[vD hx,bnd_s,ec,ed,Ad];rw[Option.some.inj h]
    simp)]
   have:=ih (pre++[eC p (z - 1+p) a a]) (λb hb=>hA b (At _ hb));rw[Ar,Am] at this;rw[this]
   simp
 have:=key [] l hA
 simpa using this
theorem oAf {n m:Nat} {r:rowT} {x:B2} (hp:1<=p/\p<=3) (hz:gB p z) (h0:z≠0) (h:C1 p n m r x) :
 bO x z p=some ⟨List.zipWith (eC p (z - 1+p)) x.left x.left,eC p (z - 1+p) x.right x.right,List.zipWith (eC p (z - 1+p)) x.bys x.bys⟩:=by
 unfold bO
 rw[xKn hp hz h0 h.lb,thn_nx];have hv:=xVx hp hz h0 h.rb
 unfold xQc at hv
 obtain⟨c,ec,hv⟩:=bP hv;obtain⟨d,ed,hv⟩:=bP hv;simp only[ec,ed,bnd_s];rw[xKn hp hz h0 h.bb,thn_nx,Option.some.inj hv]
end
section
variable {p:Int} {R:List rowT} {X:List B2}
structure C2 (p:Int) (n m:Nat) (R:List rowT) (X:List B2):Prop where
  len:R.length=X.length
  el:∀ (k:Nat) (r:rowT) (x:B2),R[k]?=some r->X[k]?=some x->C1 p n m r x
theorem C2.get {n m k:Nat} (h:C2 p n m R X) (hk:k<R.length):∃ r x,R[k]?=some r/\X[k]?=some x/\C1 p n m r x:=by
 have h1:R[k]?=some (R[k]'hk):=Aa hk;have h2:X[k]?=some (X[k]'(by have:=h.len;omega)):=Aa (by have:=h.len;omega);exact⟨_,_,h1,h2,h.el k _ _ h1 h2⟩
theorem C2.set {n m k:Nat} (h:C2 p n m R X) {r:rowT} {x:B2} (hr:C1 p n m r x):C2 p n m (R.set k r) (X.set k x):=by
 refine⟨by simp [h.len],λj r' x' h1 h2=>?_⟩
 by_cases e:k=j
 ·subst e
  by_cases hk:k<R.length
  ·rw[Ai hk] at h1
   rw[Ai (by have:=h.len;omega)] at h2
   cases h1;cases h2;exact hr
  ·have:=(Ac.1 h1).1
   simp at this;omega
 ·rw[Ak e] at h1 h2
  exact h.el j r' x' h1 h2
theorem C2.snoc {n m:Nat} (h:C2 p n m R X) {r:rowT} {x:B2} (hr:C1 p n m r x):C2 p n m (R++[r]) (X++[x]):=by
 refine⟨by simp [h.len],λj r' x' h1 h2=>?_⟩
 by_cases hj:j<R.length
 ·rw[Bu hj] at h1
  rw[Bu (by have:=h.len;omega)] at h2;exact h.el j r' x' h1 h2
 ·rw[Bb xG] at h1
  rw[Bb (by have:=h.len;omega),<- h.len] at h2
  have hz:j - R.length=0:=by
   have:=(Ac.1 h1).1
   simp at this;omega
  rw[hz] at h1 h2
  cases h1;cases h2;exact hr
structure SysOk (p:Int) (n m:Nat) (s:B3):Prop where
  pr:s.prime=p
  p3:2<=p/\p<=3
  un:s.unknowns=(n:Int)
  n3:n<=400
  ln:s.list.length=m
  m3:m<=400
  eq:∀ e∈s.list,e.left.length=n/\(∀ a∈e.left,gB p a)/\gB p e.right
theorem xTo {m k:Nat} (hp:2<=p/\p<=3):∀ a∈(List.replicate m (0:Int)).set k 1,gB p a:=by
 intro a ha
 rcases Dd ha with ha | rfl
 ·rw[Cg ha];exact⟨xG,xG⟩
 ·exact⟨xG,xG⟩
theorem xUf {ρ:Type} {n m:Nat} {s:B3} (h:SysOk p n m s):∃ R X,oM (σ:=List rowT) (ρ:=ρ) (λk1 (x1:A8) s1=>xH (nJ (0:Int) (s.list.length:Int)) λz1=>xH (ix z1 (k1:Int)) λz2=>xH (oV x1.left) λz3=>xH (ap z3 ([x1.right])) λz4=>xH (ap s1 ([(rowT.mk z4 (z1.set ((k1:Int)).toNat 1))])) λz5=>some (.go z5)) s.list 0 []=some (.nx R)/\tC s=some X/\C2 p n m R X/\R.length=m/\X.map (λx=>(x.left,x.right))=s.list.map (λe=>(e.left,e.right)):=by
 have hm:=h.m3;have hn:=h.n3
 have hz:nJ (0:Int) (s.list.length:Int)=some (List.replicate m 0):=by
  rw[h.ln];unfold nJ;rw[if_pos ⟨xG,xG⟩,Ad]
 have key:∀ (l:List A8) (i:Nat) (R:List rowT) (X:List B2),(∀ e∈l,e∈s.list)->R.length=i->i+l.length=m->C2 p n m R X->∃ R' X',oM (σ:=List rowT) (ρ:=ρ) (λk1 (x1:A8) s1=>xH (nJ (0:Int) (s.list.length:Int)) λz1=>xH (ix z1 (k1:Int)) λz2=>xH (oV x1.left) λz3=>xH (ap z3 ([x1.right])) λz4=>xH (ap s1 ([(rowT.mk z4 (z1.set ((k1:Int)).toNat 1))])) λz5=>some (.go z5)) l i R=some (.nx R')/\oM (σ:=List B2) (ρ:=List B2) (λk2 (x2:A8) s2=>xH (kF x2.left) λz6=>xH (nJ (0:Int) (s.list.length:Int)) λz7=>xH (ix z7 (k2:Int)) λz8=>xH (ap s2 ([(B2.mk z6 x2.right (z7.set ((k2:Int)).toNat 1))])) λz9=>some (.go z9)) l i X=some (.nx X')/\C2 p n m R' X'/\R'.length=m/\X'.map (λx=>(x.left,x.right))=X.map (λx=>(x.left,x.right))++l.map (λe=>(e.left,e.right)):=by
  intro l
  induction l with
  | nil=>intro i R X _ hi qc qa;exact⟨R,X,rfl,rfl,qa,by simp at qc;omega,vK⟩
  | cons e l ih=>
   intro i R X hl hi qc qa;rw[Ao] at qc;obtain⟨e1,e2,e3⟩:=h.eq e (hl e (Bg ..));have qe:ix (List.replicate m (0:Int)) (i:Int)=some 0:=vD (by rw[Dm,if_pos xG])
   have qd:kF e.left=some e.left:=by unfold kF;rw[aC (by simp only[Bh];omega),bnd_s];rfl
   have hlen:=qa.len;obtain⟨R',X',q1,q2,q3,q4,q5⟩:=ih (i+1) (R++[⟨e.left++[e.right],(List.replicate m 0).set i 1⟩]) (X++[⟨e.left,e.right,(List.replicate m 0).set i 1⟩]) (λe he=>hl e (At _ he)) (by simp [hi]) xG (qa.snoc ⟨rfl,rfl,e1,vK,e2,e3,xTo h.p3⟩);refine⟨R',X',?_,?_,q3,q4,by rw[q5];simp⟩
   ·rw[vS (s':=R++[⟨e.left++[e.right],(List.replicate m 0).set i 1⟩]) (by
     simp only[hz,bnd_s,qe,xCn (l:=e.left) xG,Ad]
     rw[aC (by simp only[Am];omega),bnd_s,aC (by simp only[Am];omega),bnd_s])]
    exact q1
   ·rw[vS (s':=X++[⟨e.left,e.right,(List.replicate m 0).set i 1⟩]) (by
     simp only[hz,bnd_s,qe,qd,Ad]
     rw[aC (by simp only[Am];omega),bnd_s])]
    exact q2
 obtain⟨R,X,q1,q2,q3,q4,q5⟩:=key s.list 0 [] [] (λe he=>he) rfl (by have:=h.ln;omega) ⟨rfl,λk r x h=>by simp at h⟩;refine⟨R,X,q1,?_,q3,q4,vV q5⟩
 unfold tC
 rw[q2];rfl
end
section
def lf (X:List B2) (k u:Nat):Int:=((X.getD k ⟨[],0,[]⟩).left).getD u 0
theorem C1.at {p:Int} {n m u:Nat} {r:rowT} {x:B2} (h:C1 p n m r x) (hu:u<n):ix r.numbers (u:Int)=some (x.left.getD u 0)/\ix x.left (u:Int)=some (x.left.getD u 0)/\gB p (x.left.getD u 0):=by
 have hl:=h.nl;have h1:x.left[u]?=some (x.left[u]'(xG)):=Aa xG;have hg:x.left.getD u 0=x.left[u]'(xG):=kP h1;refine⟨?_,?_,?_⟩
 ·rw[hg]
  refine vD ?_;rw[h.num,Bu xG,h1]
 ·rw[hg];exact vD h1
 ·rw[hg];exact h.lb _ (Bs _)
theorem xRx {ρ:Type} {p:Int} {n m u:Nat} {R:List rowT} {X:List B2} (h:C2 p n m R X) (hu:u<n):∀ (d q i:Nat),q+d=R.length->∃ j:Nat,q<=j/\j<=R.length/\(∀ k,q<=k->k<j->lf X k u=0)/\(j<R.length->lf X j u≠0) ∧
 oM (σ:=Unit) (ρ:=Int) (λk3 (x1:rowT) s=>match s with | _=>xH (jY x1 (u:Int)) λz1=>if z1 then some (.ret ((k3:Int))) else some (.go ())) (R.drop q) i ()=some (if j<R.length then .ret ((i+(j - q):Nat):Int) else .nx ()) ∧
 ∀ k0,qU (σ:=Int) (ρ:=ρ) (λk at'=>xH (ix X at') λx=>xH (ix x.left (u:Int)) λz=>if (z==0) then some (.go (at'+1)) else some (.brk at')) d k0 (q:Int)=some (.nx (j:Int))
 | 0,q,i,hq=>by
  refine⟨q,Az _,xG,λk h1 h2=>xG,λh=>xG,?_,λk0=>rfl⟩;rw[Cv xG,if_neg xG]
  rfl
 | d+1,q,i,hq=>by
  obtain⟨r,x,h1,h2,h3⟩:=h.get (k:=q) xG;obtain⟨a1,a2,_⟩:=h3.at hu
  have qa:lf X q u=x.left.getD u 0:=by
   have:X.getD q ⟨[],0,[]⟩=x:=by rw[Ap,h2];rfl
   unfold lf;rw[this]
  have hd:R.drop q=r::R.drop (q+1):=by
   have qc:q<R.length:=xG;rw[Bt qc];rw[Aa qc] at h1;rw[Option.some.inj h1]
  by_cases hz:x.left.getD u 0=0
  ·obtain⟨j,j1,j2,j3,j4,j5,j6⟩:=xRx (ρ:=ρ) h hu d (q+1) (i+1) xG
   refine⟨j,xG,j2,λk k1 k2=>?_,j4,?_,λk0=>?_⟩
   ·by_cases e:k=q
    ·rw[e,qa,hz]
    ·exact j3 k xG k2
   ·rw[hd,vS (s':=()) (by
     unfold jY
     simp only[a1,bnd_s,hz]
     rfl),j5]
    by_cases hj:j<R.length
    ·rw[if_pos hj,if_pos hj,show i+1+(j - (q+1))=i+(j - q) by omega]
    ·rw[if_neg hj,if_neg hj]
   ·rw[zQ (s':=((q+1:Nat):Int)) (by
     simp only[vD h2,bnd_s,a2,hz]
     rfl)]
    exact j6 (k0+1)
  ·refine⟨q,Az _,xG,λk k1 k2=>xG,λ_=>by rw[qa];exact hz,?_,λk0=>?_⟩
   ·rw[hd,fE (r:=(i:Int)) (by
     unfold jY
     simp only[a1,bnd_s]
     rw[if_pos (vV hz)]),if_pos xG,Em,Cd]
   ·have qd:(x.left.getD u 0==0)=false:=by rw[Ds];exact hz
    unfold qU
    simp only[vD h2,bnd_s,a2,qd,Ah,if_false]
end
section
def cD (p t:Int) (x y:B2):B2:=⟨List.zipWith (eC p t) x.left y.left,eC p t x.right y.right,List.zipWith (eC p t) x.bys y.bys⟩
def xAs (x:B2):rowT:=⟨x.left++[x.right],x.bys⟩
theorem xZa {p z:Int} {n m:Nat} {r r':rowT} {x x':B2} (hp:1<=p/\p<=3) (hz:gB p z) (hn:n<=500) (hm:m<=500) (h:C1 p n m r x) (h':C1 p n m r' x'):bQ r p r' (p - z)=some (xAs (cD p (p - z) x x'))/\cF x x' z p=some (cD p (p - z) x x')/\C1 p n m (xAs (cD p (p - z) x x')) (cD p (p - z) x x')/\(z=0->cD p (p - z) x x'=x):=by
 have ht:0<=p - z/\p - z<=5:=by have:=hz.1;have:=hz.2;omega
 refine⟨xIb hp ht hn hm h h',oFy hp hz h h',⟨rfl,rfl,by simp [cD,h.nl,h'.nl],by simp [cD,h.ml,h'.ml],wR hp ht h.lb h'.lb,(xPf hp ht h.rb h'.rb).2.2.2,wR hp ht h.bb h'.bb⟩,λe=>?_⟩;subst e
 unfold cD
 rw[show p - 0=p by omega,xLm hp (by rw[h.nl,h'.nl]) h.lb h'.lb,xLm hp (by rw[h.ml,h'.ml]) h.bb h'.bb,oAw hp h.rb h'.rb]
theorem xJv {ρ ρ':Type} {p:Int} {n m u done:Nat} {R:List rowT} {X:List B2} {xd:B2} (hp:1<=p/\p<=3) (hn:n<=500) (hm:m<=500) (hu:u<n) (hd:X[done]?=some xd):∀ (d i:Nat) (R0 S:List rowT) (Y:List B2),i+d=X.length->R0.length=d->C2 p n m S Y->Y.length=X.length->Y[done]?=some xd->(∀ k,i<=k->Y[k]?=X[k]?)->(∀ k x,k<i->k≠done->X[k]?=some x->Y[k]?=some (cD p (p - x.left.getD u 0) x xd))->
 ∃ S' Y',oM (σ:=List rowT) (ρ:=ρ) (λk1 (x1:rowT) s1=>xH (ix s1 (k1:Int)) λz1=>if ((k1:Int) != (done:Int)) then xH (ix s1 (done:Int)) λz2=>xH (ix z1.numbers (u:Int)) λz3=>xH (ck (p - z3)) λz4=>xH (bQ (rowT.mk z1.numbers z1.bys) p z2 z4) λz5=>some (.go (s1.set ((k1:Int)).toNat (rowT.mk z5.numbers z5.bys))) else some (.go s1)) R0 i S=some (.nx S') ∧
  qU (σ:=List B2) (ρ:=ρ') (λi (rows:List B2)=>if ((i:Int) != (done:Int)) then xH (ix rows (i:Int)) λri=>xH (ix ri.left (u:Int)) λzi=>if (zi != 0) then xH (ix rows (done:Int)) λrd=>xH (cF ri rd zi p) λr'=>some (.go (rows.set ((i:Int)).toNat r')) else some (.go rows) else some (.go rows)) d i Y=some (.nx Y')/\C2 p n m S' Y'/\Y'.length=X.length/\Y'[done]?=some xd/\(∀ k x,k≠done->X[k]?=some x->Y'[k]?=some (cD p (p - x.left.getD u 0) x xd))
 | 0,i,[],S,Y,hi,_,hS,hl,hY,_,hk=>⟨S,Y,rfl,rfl,hS,hl,hY,λk x qa hx=>hk k x (by have:=(Ac.1 hx).1;omega) qa hx⟩
 | 0,i,_::_,S,Y,_,h,_,_,_,_,_=>by simp at h
 | d+1,i,[],S,Y,_,h,_,_,_,_,_=>by simp at h
 | d+1,i,r0::R0,S,Y,hi,h0,hS,hl,hY,qc,hk=>by
  have hlen:=hS.len;obtain⟨r,x,h1,h2,h3⟩:=hS.get (k:=i) xG
  have qd:X[i]?=some x:=by rw[<- qc i (Az _)];exact h2
  obtain⟨a1,a2,a3⟩:=h3.at hu
  by_cases e:i=done
  ·have hb:((i:Int) != (done:Int))=false:=by simp [e]
   obtain⟨S',Y',q1,q2,q3⟩:=xJv (ρ:=ρ) (ρ':=ρ') (R:=R) hp hn hm hu hd d (i+1) R0 S Y xG (vV h0) hS hl hY (λk qe=>qc k xG) (λk x' qf qa hx=>hk k x' xG qa hx);refine⟨S',Y',?_,?_,q3⟩
   ·rw[vS (s':=S) (by simp only[vD h1,bnd_s,hb,Ah,if_false])]
    exact q1
   ·rw[zQ (s':=Y) (by simp only[hb,Ah,if_false])]
    exact q2
  ·have hb:((i:Int) != (done:Int))=true:=by rw[bne_iff_ne];omega
   obtain⟨rd,xd',g1,g2,g3⟩:=hS.get (k:=done) (by have:=(Ac.1 hd).1;omega)
   obtain rfl:xd=xd':=by rw[hY] at g2;exact Option.some.inj g2
   obtain⟨l1,l2,l3,l4⟩:=xZa hp a3 hn hm h3 g3
   obtain⟨S',Y',q1,q2,q3⟩:=xJv (ρ:=ρ) (ρ':=ρ') (R:=R) hp hn hm hu hd d (i+1) R0 (S.set i (xAs (cD p (p - x.left.getD u 0) x xd))) (Y.set i (cD p (p - x.left.getD u 0) x xd)) xG (vV h0) (hS.set l3) (by simp [hl]) (by rw[Ak e];exact hY) (λk qe=>by rw[Ak xG];exact qc k xG) (λk x' qf qa hx=>by
    by_cases ek:i=k
    ·subst ek
     rw[qd] at hx
     cases hx
     rw[Ai xG]
    ·rw[Ak ek]
     exact hk k x' xG qa hx)
   refine⟨S',Y',?_,?_,q3⟩
   ·rw[vS (s':=S.set i (xAs (cD p (p - x.left.getD u 0) x xd))) (by
     simp only[vD h1,bnd_s,hb,if_true,vD g1,a1,zO (x:=p - x.left.getD u 0) (by have:=a3.1;have:=a3.2;omega) (by have:=a3.1;have:=a3.2;omega)]
     rw[show rowT.mk r.numbers r.bys=r from rfl,l1,bnd_s,Ad])]
    exact q1
   ·rw[zQ (s':=Y.set i (cD p (p - x.left.getD u 0) x xd)) (by
     simp only[hb,if_true,vD h2,bnd_s,a2]
     by_cases hz:x.left.getD u 0=0
     ·rw[if_neg (by rw[hz];simp),l4 hz]
      have:Y.set i x=Y:=by
       obtain⟨hk,rfl⟩:=Ac.1 h2;exact List.set_getElem_self hk
      rw[this]
     ·rw[if_pos (by rw[bne_iff_ne];exact hz),vD g2,bnd_s,l2,bnd_s,Ad])]
    exact q2
end
section
variable {p:Int}
theorem xKu (f:Int->Int->Int) {l m:List Int} {v:Nat} (hl:v<l.length) (hm:v<m.length):(List.zipWith f l m).getD v 0=f (l.getD v 0) (m.getD v 0):=by
 refine kP ?_;rw[List.getElem?_zipWith,Aa hl,Aa hm];have h1:l.getD v 0=l[v]:=kP (Aa hl);have h2:m.getD v 0=m[v]:=kP (Aa hm);rw[h1,h2]
theorem xKj {t:Int} {n m v:Nat} {r r':rowT} {x y:B2} (h:C1 p n m r x) (h':C1 p n m r' y) (hv:v<n):(cD p t x y).left.getD v 0=eC p t (x.left.getD v 0) (y.left.getD v 0):=xKu _ (by rw[h.nl];exact hv) (by rw[h'.nl];exact hv)
theorem xWp {t a:Int} (hp:1<=p) (ha:gB p a):eC p t a 0=a:=by
 unfold eC
 rw[Int.mul_zero,Int.add_zero,Cp ha.1,Int.emod_eq_of_lt ha.1 ha.2]
theorem oLe:∀ p:Nat,p<4->∀ z:Nat,z<p->1<=z->eC p (z - 1+p) z z=1:=by decide +kernel
theorem oKh:∀ p:Nat,p<4->∀ z:Nat,z<p->2<=p->eC p (p - z) z 1=0:=by decide +kernel
theorem oIp {z:Int} (hp:1<=p/\p<=3) (hz:gB p z) (h0:z≠0):eC p (z - 1+p) z z=1:=by
 obtain⟨z,rfl,qa⟩:=hz.nat;have:=oLe p.toNat xG z qa xG
 rwa [show((p.toNat:Nat):Int)=p by omega] at this
theorem xYh {z:Int} (hp:2<=p/\p<=3) (hz:gB p z):eC p (p - z) z 1=0:=by
 obtain⟨z,rfl,qa⟩:=hz.nat;have:=oKh p.toNat xG z qa xG
 rwa [show((p.toNat:Nat):Int)=p by omega] at this
end
section
open Go.RowKit
def sm:Nat->(Nat->Int)->Int | 0,_=>0 | n+1,f=>sm n f+f n
theorem tL {f g:Nat->Int}:∀ {n:Nat},(∀ i,i<n->f i=g i)->sm n f=sm n g
 | 0,_=>rfl
 | n+1,h=>by simp only[sm];rw[tL (λi hi=>h i xG),h n xG]
theorem xLt (f g:Nat->Int):∀ n,sm n (λi=>f i+g i)=sm n f+sm n g
 | 0=>rfl
 | n+1=>by simp only[sm,xLt f g n];omega
theorem xKf (a:Int) (f:Nat->Int):∀ n,sm n (λi=>a*f i)=a*sm n f
 | 0=>by simp [sm]
 | n+1=>by simp only[sm,xKf a f n];rw[Int.mul_add]
theorem xCu {f:Nat->Int} {n:Nat} (h:∀ i,i<n->f i=0):sm n f=0:=by
 induction n with
 | zero=>rfl
 | succ n ih=>simp only[sm];rw[ih (λi hi=>h i xG),h n xG];rfl
theorem xUk {f:Nat->Int} {n u:Nat} (hu:u<n) (h:∀ i,i<n->i≠u->f i=0):sm n f=f u:=by
 induction n with
 | zero=>omega
 | succ n ih=>
  simp only[sm]
  by_cases e:u=n
  ·subst e;rw[xCu (λi hi=>h i xG xG)];omega
  ·rw[ih xG (λi hi ne=>h i xG ne),h n xG xG];omega
theorem xVo (f:Nat->Nat->Int) (k:Nat):∀ n,sm n (λi=>sm k (f i))=sm k (λj=>sm n (λi=>f i j))
 | 0=>by simp only[sm];exact(xCu (λ_ _=>rfl)).symm
 | n+1=>by simp only[sm];rw[xVo f k n,<- xLt]
theorem oIe {p:Int} {f:Nat->Int} {n:Nat} (h:∀ i,i<n->p ∣ f i):p ∣ sm n f:=by
 induction n with
 | zero=>exact⟨0,by simp [sm]⟩
 | succ n ih=>simp only[sm];exact Int.dvd_add (ih (λi hi=>h i xG)) (h n xG)
def dl (u c:Nat):Int:=if c=u then 1 else 0
theorem oGm {f:Nat->Int} {n u:Nat} (hu:u<n):sm n (λc=>f c*dl u c)=f u:=by
 rw[xUk hu (λi _ ne=>by simp [dl,ne])];simp [dl]
structure Red (p:Int) (m:Nat) (V:(Nat->Int)->Prop) (k:Nat) (R:Nat->Nat->Int) (b:Nat->Nat):Prop where
  up:∀ i j,i<j->j<k->b i<b j
  lt:∀ i,i<k->b i<m
  v:∀ i,i<k->V (R i)
  rg:∀ i c,i<k->c<m->0<=R i c/\R i c<p
  pv:∀ i j,i<k->j<k->R i (b j)=if i=j then 1 else 0
  ld:∀ i c,i<k->c<b i->R i c=0
  al:∀ x:Nat->Int,(∀ i,i<k->p ∣ sm m (λc=>R i c*x c))->∀ e,V e->p ∣ sm m (λc=>e c*x c)
section
variable {p:Int} {m:Nat} {V:(Nat->Int)->Prop} {k l:Nat} {R S:Nat->Nat->Int} {b q:Nat->Nat}
theorem oAm (h:Red p m V k R b) (e:Nat->Int) (u:Nat) (hu:u<m):sm m (λc=>e c*(dl u c+sm k (λj=>-(R j u)*dl (b j) c)))=e u+sm k (λj=>-(R j u)*e (b j)):=by
 rw[tL (g:=λc=>e c*dl u c+sm k (λj=>-(R j u)*(e c*dl (b j) c))),xLt,oGm hu,xVo]
 ·congr 1
  refine tL (λj hj=>?_);rw[xKf,oGm (h.lt j hj)]
 ·intro c _
  rw[Int.mul_add,<- xKf]
  congr 1
  refine tL (λj _=>?_);rw[Int.mul_left_comm]
theorem Red.sum (h:Red p m V k R b) {e:Nat->Int} (he:V e) {u:Nat} (hu:u<m):p ∣ e u - sm k (λj=>R j u*e (b j)):=by
 have q:=h.al (λc=>dl u c+sm k (λj=>-(R j u)*dl (b j) c)) (λi hi=>by
  rw[oAm h (R i) u hu,xUk (u:=i) hi (λj hj ne=>by rw[h.pv i j hi hj,if_neg (λe=>ne e.symm)];simp),h.pv i i hi hi,if_pos rfl]
  exact⟨0,xG⟩) e he
 rw[oAm h e u hu] at q
 have r:sm k (λj=>-(R j u)*e (b j))= - sm k (λj=>R j u*e (b j)):=by
  rw[tL (g:=λj=>(-1)*(R j u*e (b j))),xKf]
  ·omega
  ·intro j _;rw[Int.neg_mul];omega
 rw[r] at q
 simpa [Int.sub_eq_add_neg] using q
theorem Red.mem (hp:2<=p) (h:Red p m V k R b) (h':Red p m V l S q) {j:Nat} (hj:j<l):∃ i,i<k/\b i=q j:=by
 refine Classical.byContradiction (λhn=>?_);have d:=h.sum (h'.v j hj) (h'.lt j hj);rw[xCu (λi hi=>?_),h'.pv j j hj hj,if_pos rfl] at d
 ·obtain⟨z,hz⟩:=d
  have:p<=1:=Int.le_of_dvd xG ⟨z,xG⟩
  omega
 ·by_cases g:b i<q j
  ·rw[h'.ld j _ hj g];simp
  ·by_cases g2:b i=q j
   ·exact absurd ⟨i,hi,g2⟩ hn
   ·rw[h.ld i _ hi xG];simp
theorem oGj {b:Nat->Nat} {k:Nat} (h:∀ i j,i<j->j<k->b i<b j) {i j:Nat} (hi:i<k) (hj:j<k) (e:b i<b j):i<j:=by
 rcases Nat.lt_trichotomy i j with g | g | g
 ·exact g
 ·subst g;omega
 ·have:=h j i g hi;omega
theorem Red.piv (hp:2<=p) (h:Red p m V k R b) (h':Red p m V l S q):∀ i,i<k->i<l/\q i=b i:=by
 intro i
 induction i using Nat.strongRecOn with
 | ind i ih=>
  intro hi;obtain⟨j,hj,e⟩:=h'.mem hp h hi
  rcases Nat.lt_trichotomy i j with g | g | g
  ·obtain⟨t,ht,et⟩:=h.mem hp h' (Nat.lt_trans g hj)
   have u:=h'.up i j g hj;have v:t<i:=oGj h.up ht hi xG;have w:=ih t v ht;have:=oGj h'.up (i:=i) (j:=j) (Nat.lt_trans g hj) hj u;have y:=h'.up t i v (Nat.lt_trans g hj)
   omega
  ·subst g;exact⟨hj,e⟩
  ·have w:=ih j g (Nat.lt_trans g hi)
   have:=h.up j i g hi
   omega
theorem Red.uniq (hp:2<=p) (h:Red p m V k R b) (h':Red p m V l S q):k=l/\∀ i,i<k->b i=q i/\∀ c,c<m->R i c=S i c:=by
 have kl:k=l:=by
  have a:=h.piv hp h';have b:=h'.piv hp h
  rcases Nat.lt_trichotomy k l with g | g | g
  ·have:=(b k g).1;omega
  ·exact g
  ·have:=(a l g).1;omega
 refine⟨kl,λi hi=>⟨((h.piv hp h') i hi).2.symm,λc hc=>?_⟩⟩;have d:=h'.sum (h.v i hi) hc;rw[xUk (u:=i) (kl ▸ hi) (λj hj ne=>?_),((h.piv hp h') i hi).2,h.pv i i hi hi,if_pos rfl] at d
 ·obtain⟨z,hz⟩:=d
  have r1:=h.rg i c hi hc;have r2:=h'.rg i c (kl ▸ hi) hc
  have:z=0:=by
   rcases Int.lt_trichotomy z 0 with g | g | g
   ·have:p*z<=p*(-1):=Dt xG xG
    omega
   ·exact g
   ·have:p*1<=p*z:=Dt xG xG
    omega
  subst this
  omega
 ·rw[((h.piv hp h') j (kl ▸ hj)).2,h.pv i j hi (kl ▸ hj),if_neg (λe=>ne e.symm)];simp
end
end
section
variable {p:Int} {x:B2} {t:Int} {Y:List B2} {S:List rowT} {X0:List B2} {pl:List Int}
def xRu:B2:=⟨[],0,[]⟩
def mV (n:Nat) (x:B2) (c:Nat):Int:=if c<n then x.left.getD c 0 else x.right
def pT (n:Nat) (x:B2) (y:Nat->Int):Int:=sm (n+1) (λc=>mV n x c*y c)
theorem xZv (p t a b:Int):p ∣ eC p t a b - (a+t*b):=by
 unfold eC
 rw[Int.tmod_def];exact⟨-((a+t*b).tdiv p),by rw[Int.mul_neg];omega⟩
theorem xXa {n c:Nat} {y:B2} (hx:x.left.length=n) (hy:y.left.length=n):mV n (cD p t x y) c=eC p t (mV n x c) (mV n y c):=by
 unfold mV
 by_cases h:c<n
 ·rw[if_pos h,if_pos h,if_pos h];exact xKu _ xG xG
 ·rw[if_neg h,if_neg h,if_neg h];rfl
theorem xKr {n:Nat} {y:B2} (hx:x.left.length=n) (hy:y.left.length=n) (w:Nat->Int):p ∣ pT n (cD p t x y) w - (pT n x w+t*pT n y w):=by
 have e:pT n (cD p t x y) w=sm (n+1) (λc=>(mV n x c*w c+t*(mV n y c*w c))+(eC p t (mV n x c) (mV n y c) - (mV n x c+t*mV n y c))*w c):=tL (λc _=>by
  rw[xXa hx hy,Int.sub_mul,Int.add_mul,Int.mul_assoc];omega)
 rw[e,xLt,xLt,xKf];have d:p ∣ sm (n+1) (λc=>(eC p t (mV n x c) (mV n y c) - (mV n x c+t*mV n y c))*w c):=oIe (λc _=>Int.dvd_mul_of_dvd_left (xZv ..))
 unfold pT
 rwa [show ∀ a b:Int,a+b - a=b from λa b=>by omega]
theorem oAb {A B D:Int} (h:p ∣ A - (B+t*D)) (hB:p ∣ B) (hD:p ∣ D):p ∣ A:=by
 obtain⟨a,ha⟩:=h;obtain⟨b,rfl⟩:=hB;obtain⟨d,rfl⟩:=hD;refine⟨a+b+t*d,?_⟩;rw[Int.mul_add,Int.mul_add,Int.mul_left_comm p t d]
 omega
theorem oCh {A B D:Int} (h:p ∣ A - (B+t*D)) (hA:p ∣ A) (hD:p ∣ D):p ∣ B:=by
 obtain⟨a,ha⟩:=h;obtain⟨b,rfl⟩:=hA;obtain⟨d,rfl⟩:=hD;refine⟨b - a - t*d,?_⟩;rw[Int.mul_sub,Int.mul_sub,Int.mul_left_comm p t d]
 omega
theorem oBi {z A D:Int} (hp:2<=p/\p<=3) (hz:gB p z) (h0:z≠0) (h:p ∣ A - (D+(z - 1+p)*D)) (hA:p ∣ A):p ∣ D:=by
 obtain⟨h1,h2⟩:=hp;obtain⟨z0,z1⟩:=hz;have:(p=2/\z=1)∨(p=3/\z=1)∨(p=3/\z=2):=xG
 rcases this with ⟨rfl,rfl⟩ | ⟨rfl,rfl⟩ | ⟨rfl,rfl⟩<;>omega
theorem xJo (p t:Int):eC p t 0 0=0:=by unfold eC;simp
theorem nA {X:List B2} {k u:Nat} (h:X[k]?=some x):lf X k u=x.left.getD u 0:=by
 have:X.getD k ⟨[],0,[]⟩=x:=by rw[Ap,h];rfl
 unfold lf;rw[this]
theorem fT {X:List B2} {k:Nat} (h:X[k]?=some x):X.getD k xRu=x:=by rw[Ap,h];rfl
structure B8 (p:Int) (n m u:Nat) (X0:List B2) (pl:List Int) (S:List rowT) (Y:List B2):Prop where
  rows:C2 p n m S Y
  len:Y.length=m
  le:pl.length<=m
  low:∀ k v,pl.length<=k->k<m->v<u->lf Y k v=0
  piv:∀ k,k<pl.length->∃ c:Nat,pl[k]?=some (c:Int)/\c<u/\(∀ v,v<c->lf Y k v=0)/\∀ i,i<m->lf Y i c=if i=k then 1 else 0
  up:∀ (i j:Nat) (a b:Int),i<j->pl[i]?=some a->pl[j]?=some b->a<b
  sem:∀ w:Nat->Int,(∀ k,k<m->p ∣ pT n (X0.getD k xRu) w)↔∀ k,k<m->p ∣ pT n (Y.getD k xRu) w
theorem B8.skip {n m u:Nat} (h:B8 p n m u X0 pl S Y) (hz:∀ k,pl.length<=k->k<m->lf Y k u=0):B8 p n m (u+1) X0 pl S Y:=by
 refine⟨h.rows,h.len,h.le,λk v h1 h2 h3=>?_,λk hk=>?_,h.up,h.sem⟩
 ·by_cases e:v=u
  ·rw[e];exact hz k h1 h2
  ·exact h.low k v h1 h2 xG
 ·obtain⟨c,c1,c2,c3,c4⟩:=h.piv k hk
  exact⟨c,c1,xG,c3,c4⟩
theorem B8.at {n m u:Nat} (h:B8 p n m u X0 pl S Y) {k:Nat} (hk:k<m):∃ r x,Y[k]?=some x/\C1 p n m r x:=by
 obtain⟨r,x,_,h2,h3⟩:=h.rows.get (k:=k) (by have:=h.rows.len;have:=h.len;omega);exact⟨r,x,h2,h3⟩
theorem C1.below {n m v:Nat} {r:rowT} (h:C1 p n m r x) (hv:v<n):gB p (x.left.getD v 0):=(h.at hv).2.2
theorem B8.step {n m u:Nat} {S':List rowT} {Z:List B2} (h:B8 p n m u X0 pl S Y) (hp:2<=p/\p<=3) (hu:u<n) {j:Nat} (hj:pl.length<=j) (qc:j<m) {yd yj xd:B2} (hd:Y[pl.length]?=some yd) (qd:Y[j]?=some yj) (hz:yj.left.getD u 0≠0) (qe:xd=cD p (yj.left.getD u 0 - 1+p) yj yj) (hS:C2 p n m S' Z) (hl:Z.length=m) (qf:Z[pl.length]?=some xd) (qk:∀ k x,k≠pl.length->((Y.set pl.length yj).set j yd)[k]?=some x->Z[k]?=some (cD p (p - x.left.getD u 0) x xd)):B8 p n m (u+1) X0 (pl++[(u:Int)]) S' Z:=by
 have ql:1<=p/\p<=3:=⟨xG,hp.2⟩;have hlen:=h.len;obtain⟨rj,yj',e1,qa⟩:=h.at qc
 obtain rfl:yj=yj':=by rw[qd] at e1;exact Option.some.inj e1
 have dm:pl.length<m:=xG;have qm:=qa.below hu
 have xdl:xd.left.length=n:=by rw[qe];simp [cD,qa.nl]
 have xv:∀ v,v<u->xd.left.getD v 0=0:=λv hv=>by
  have qh:yj.left.getD v 0=0:=by rw[<- nA qd];exact h.low j v hj qc hv
  rw[qe,xKj qa qa xG,qh,xJo]
 have xu:xd.left.getD u 0=1:=by rw[qe,xKj qa qa hu];exact oIp ql qm hz
 have xc:∀ k c,k<pl.length->(∀ i,i<m->lf Y i c=if i=k then 1 else 0)->c<n->xd.left.getD c 0=0:=λk c hk hc qo=>by
  have qh:yj.left.getD c 0=0:=by rw[<- nA qd,hc j qc,if_neg xG]
  rw[qe,xKj qa qa qo,qh,xJo]
 have key:∀ k,k<m->k≠pl.length->∃ i r x,i<m/\(i=if k=j then pl.length else k)/\Y[i]?=some x/\C1 p n m r x/\Z[k]?=some (cD p (p - x.left.getD u 0) x xd):=by
  intro k hk qi
  by_cases e:k=j
  ·obtain⟨r,x,g1,g2⟩:=h.at dm
   obtain rfl:yd=x:=by rw[hd] at g1;exact Option.some.inj g1
   refine⟨pl.length,r,yd,dm,by rw[if_pos e],hd,g2,qk k yd qi ?_⟩;rw[e,Ai (by simp;omega)]
  ·obtain⟨r,x,g1,g2⟩:=h.at hk
   refine⟨k,r,x,hk,by rw[if_neg e],g1,g2,qk k x qi ?_⟩;rw[Ak (λe'=>e e'.symm),Ak (λe'=>qi e'.symm),g1]
 have lat:∀ {t:Int} {r:rowT} {x:B2} {v:Nat},C1 p n m r x->v<n->(cD p t x xd).left.getD v 0=eC p t (x.left.getD v 0) (xd.left.getD v 0):=λhr hv=>xKu _ (by rw[hr.nl];exact hv) xG;have kpl:∀ k,k<pl.length->(pl++[(u:Int)])[k]?=pl[k]?:=λk hk=>Bu hk;have kpd:(pl++[(u:Int)])[pl.length]?=some (u:Int):=vK;refine⟨hS,hl,by simp;omega,λk v h1 h2 h3=>?_,λk hk=>?_,λa b x y qp ha hb=>?_,λw=>?_⟩
 ·rw[Ar,Am] at h1
  obtain⟨i,r,x,i1,i2,i3,i4,i5⟩:=key k h2 xG;rw[nA i5,lat i4 xG]
  have hi:pl.length<=i:=by rw[i2];split<;>omega
  by_cases e:v=u
  ·rw[e,xu];exact xYh hp (i4.below hu)
  ·have hv:v<u:=xG
   rw[xv v hv,<- nA (u:=v) i3,h.low i v hi i1 hv,xJo]
 ·rw[Ar,Am] at hk
  by_cases e:k=pl.length
  ·subst e
   refine⟨u,kpd,xG,λv hv=>?_,λi hi=>?_⟩
   ·rw[nA qf];exact xv v hv
   ·by_cases e:i=pl.length
    ·rw[if_pos e,e,nA qf];exact xu
    ·obtain⟨i',r,x,i1,i2,i3,i4,i5⟩:=key i hi e
     rw[if_neg e,nA i5,lat i4 hu,xu];exact xYh hp (i4.below hu)
  ·have qj:k<pl.length:=xG
   obtain⟨c,c1,c2,c3,c4⟩:=h.piv k qj;have x0:=xc k c qj c4 xG;refine⟨c,by rw[kpl k qj];exact c1,xG,λv hv=>?_,λi hi=>?_⟩
   ·obtain⟨i',r,x,i1,i2,i3,i4,i5⟩:=key k xG e
    rw[if_neg xG] at i2;subst i2;rw[nA i5,lat i4 xG,xv v xG,<- nA (u:=v) i3,c3 v hv,xJo]
   ·by_cases e:i=pl.length
    ·rw[if_neg xG,e,nA qf];exact x0
    ·obtain⟨i',r,x,i1,i2,i3,i4,i5⟩:=key i hi e
     rw[nA i5,lat i4 xG,x0,xWp ql.1 (i4.below xG),<- nA (u:=c) i3,c4 i' i1]
     by_cases e2:i=j
     ·rw[if_pos e2] at i2
      rw[if_neg xG,if_neg xG]
     ·rw[if_neg e2] at i2
      rw[i2]
 ·by_cases e:b=pl.length
  ·rw[e,kpd] at hb
   cases hb
   have qn:a<pl.length:=xG;rw[kpl a qn] at ha;obtain⟨c,c1,c2,_⟩:=h.piv a qn;rw[ha] at c1
   cases c1
   omega
  ·have qq:b<pl.length:=by
    have:=(Ac.1 hb).1
    simp at this;omega
   rw[kpl b qq] at hb;rw[kpl a xG] at ha;exact h.up a b x y qp ha hb
 ·rw[h.sem w]
  have dd:=xKr (p:=p) (t:=yj.left.getD u 0 - 1+p) qa.nl qa.nl w;rw[<- qe] at dd
  constructor
  ·intro hY k hk
   have qg:=hY j qc;rw[fT qd] at qg;have hX:=oAb dd qg qg
   by_cases e:k=pl.length
   ·rw[e,fT qf];exact hX
   ·obtain⟨i,r,x,i1,i2,i3,i4,i5⟩:=key k hk e
    have hD:=hY i i1;rw[fT i3] at hD;rw[fT i5];exact oAb (xKr i4.nl xdl w) hD hX
  ·intro hZ k hk
   have hX:=hZ pl.length dm;rw[fT qf] at hX;have qg:=oBi hp qm hz dd hX
   have oth:∀ k,k<m->k≠pl.length->∃ x,Y[if k=j then pl.length else k]?=some x/\p ∣ pT n x w:=by
    intro k hk e;obtain⟨i,r,x,i1,i2,i3,i4,i5⟩:=key k hk e;refine⟨x,i2 ▸ i3,?_⟩;have hD:=hZ k hk;rw[fT i5] at hD;exact oCh (xKr i4.nl xdl w) hD hX
   by_cases e:k=j
   ·rw[e,fT qd];exact qg
   ·by_cases e2:k=pl.length
    ·obtain⟨x,x1,x2⟩:=oth j qc xG
     rw[if_pos rfl] at x1;rw[e2,fT x1];exact x2
    ·obtain⟨x,x1,x2⟩:=oth k hk e2
     rw[if_neg e] at x1;rw[fT x1];exact x2
end
end Go.Proofs.YtomlfdagbmgmgaaGreat
