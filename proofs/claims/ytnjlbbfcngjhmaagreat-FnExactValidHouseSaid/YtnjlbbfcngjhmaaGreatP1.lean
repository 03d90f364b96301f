import Derived.Test.YtnjlbbfcngjhmaaGreatJR3
namespace Go.Proofs.YtnjlbbfcngjhmaaGreat
set_option linter.unusedVariables false
set_option linter.unusedSimpArgs false
open Go.Proofs.Tryz
set_option maxHeartbeats 1000000
set_option maxRecDepth 100000
open Go.RowKit
variable {B:Nat->Prop} {N:Nat}
def cU (c:Int):Option Bool:= xG (zZ c 1 4) λd=>some d
theorem pX {c} (r) (f:cU c=some r) (d) (hN:HN B d) (e:xL c):CG B d 32 #[xA c] (.st (.bool r) λD=>D):=by
 unfold cU at f
 revert r
 refine vM func32 [(0,xA c)] hN λr=>?_;refine xI (xM 1 rfl (jo rfl (jB λh i=>(jk (λH=>kH h i _ aA e zL uC) (xS 1 rfl ?_)))));exact qT (rt rfl) lv
def nM (c:Int):Option Bool:= xG (zZ c 1 4) λd=>some d
theorem xIs {c} (r) (f:nM c=some r) (d) (hN:HN B d) (e:xL c):CG B d 52 #[xA c] (.st (.bool r) λD=>D):=by
 unfold nM at f
 revert r
 refine vM func52 [(0,xA c)] hN λr=>?_;refine xI (xM 1 rfl (jo rfl (jB λh i=>(jk (λH=>kH h i _ aA e zL uC) (xS 1 rfl ?_)))));exact qT (rt rfl) lv
def lG (d e:Int) (c:List Int):Option Bool:= oZ (σ:=Unit) (oM (λj (f:Int) s=>match s with | _=>xG (ck (d - 1)) λh=>xG (zZ f 0 h) λi=>if (!i) then some (.ret false) else some (.go ())) c 0 ()) λ_=>some (((c.length:Int)==e))
theorem xIn {d c j} (r) (y:lG d c j=some r) {e} (i) (hN:HN B i) (K:xL d) (L:xL c) (f:Bo B i (Sl 1 xF) e j):CG B i 53 #[xA d,xA c,e] (.st (.bool r) λD=>D):=by
 unfold lG at y
 revert r
 refine vM func53 [(0,xA d),(1,xA c),(2,e)] hN λr=>?_;refine xI (xK 1 rfl (xC 1 rfl (qZ (λ_=>.st [(1,xA c),(2,e)] []) ?_ (λ_=>?_))))
 ·
  refine zK (jl (λp _=>.st [(7,xA (p:Int)),(0,xA d),(1,xA c),(2,e)] []) ls (λ_ _ _ z=>?_) (λp _ _ h A=>?_))
  ·have C:=oU z;refine xR (jA 2 rfl (jL f λ_=>xC 1 rfl (kJ C (xN ?_))));exact jf ls
  refine xR (jA 2 rfl (jL f λt=>xC 1 rfl (kO (xX h) (xY ?_))));have j1:=dS (Ah h) t;refine qE (jA 2 rfl (jI f A λ_ E=>aP E λF=>jo rfl (jB λM x=>(gM x (jB λG I=>(jk (λH=>kH G I _ aA F xO (kA x)) (xC 1 rfl ?_)))))));refine xT ?_ ?_
  ·refine xI (oY 1 rfl (fZ (zR (fH (lD ?_)))));exact qT (rt rfl) lv
  refine qJ (jo rfl (xU (qG h t) (xC 1 rfl ?_)));exact jg ls
 refine oO (jo rfl (jL f λ_=>xS 3 rfl ?_));exact qT (rt rfl) lv
def gU (e f:List Int):Option Bool:= oZ (σ:=Unit) (oM (λh (c:Int) s=>match s with | _=>xG (ix f (h:Int)) λd=>if (c != d) then some (.ret ((decide (c<d)))) else some (.go ())) e 0 ()) λ_=>some false
theorem xGj {i j} (r) (A:gU i j=some r) {c d} (e) (hN:HN B e) (f:Bo B e (Sl 1 xF) c i) (p:Bo B e (Sl 1 xF) d j):CG B e 54 #[c,d] (.st (.bool r) λD=>D):=by
 unfold gU at A
 revert r
 refine vM func54 [(0,c),(1,d)] hN λr=>?_;refine xI (xK 1 rfl (xC 1 rfl (qZ (λ_=>.st [] []) ?_ (λ_=>?_))))
 ·
  refine zK (jl (λt _=>.st [(5,xA (t:Int)),(0,c),(1,d)] []) ls (λ_ _ _ C=>?_) (λt _ _ h x=>?_))
  ·have E:=oU C;refine xR (jA 2 rfl (jL f λ_=>xC 1 rfl (kJ E (xN ?_))));exact jf ls
  refine xR (jA 2 rfl (jL f λy=>xC 1 rfl (kO (xX h) (xY ?_))));have j1:=dS (Ah h) y;refine uV (jQ (zA 2 rfl (lM f x λ_ F=>kI F λ_=>zA 2 rfl (jB λK z=>(lM p z λ_ G=>kI G λ_=>zA 1 rfl (nD ?_))))));refine eD (xT ?_ ?_)
  ·refine a_s (jQ (zA 2 rfl (lM f x λ_ H=>kI H λ_=>zA 2 rfl (lM p z λ_ I=>kI I λ_=>zA 2 rfl (nD (xPm ?_))))));refine fZ (zR (fH (lD ?_)));exact qT (rt rfl) lv
  refine qJ (jo rfl (xU (qG h y) (xC 1 rfl ?_)));exact jg ls
 refine oO (xS 1 rfl ?_);exact qT (rt rfl) lv
def nZ (d:Int) (c:Rel):Option Bool:= oZ (σ:=Bool) (xG (cU d) λh=>if (!h) then  some (.nx true) else  xG (nM c.arity) λi=>some (.nx (!i))) λj=>if j then some false else oZ (σ:=Unit) (oM (λe (f:(List Int)) s=>match s with | _=>oZ (σ:=Bool) (xG (lG d c.arity f) λp=>if (!p) then  some (.nx true) else  if (decide (0<(e:Int))) then  xG (ck ((e:Int) - 1)) λt=>xG (ix c.tuples t) λx=>xG (gU x f) λy=>some (.nx (!y)) else  some (.nx false)) λz=>if z then some (.ret false) else some (.go ())) c.tuples 0 ()) λ_=>some true
theorem xOz {d p} (r) (M:nZ d p=some r) {e} (h) (hN:HN B h) (j:xL d) (c:Bo B h (Pt 2 oQ) e p):CG B h 31 #[xA d,e] (.st (.bool r) λD=>D):=by
 unfold nZ at M
 revert r
 refine vM func31 [(0,xA d),(1,e)] hN λr=>?_;refine xI (jo rfl (nE (qZ (λN=>.st [(0,xA d),(1,e),(16,.bool N)] []) ?_ (λ_=>?_))))
 ·
  refine lP (jo rfl (jB λO P=>(jk (λH=>pX O P _ aA j) (jA 2 rfl (fD 9 (λ_=>?_) (λ_=>?_))))))
  ·refine xC 7 rfl ?_;exact jf ls
  refine jo rfl (jN c (aF c oQ.f0 λ_ Q=>aP Q λR=>jB λS T=>(jk (λH=>xIs S T _ aA R) (xC 2 rfl ?_))));exact jf ls
 refine eD (xT ?_ ?_)
 ·refine xI (oE 1 rfl ?_);exact qT (rt rfl) lv
 refine vT (xC 1 rfl (qZ (λ_=>.st [] []) ?_ (λ_=>?_)))
 ·
  refine zK (jl (λi _=>.st [(5,xA (i:Int)),(0,xA d),(1,e)] []) ls (λ_ _ _ U=>?_) (λi _ _ f t=>?_))
  ·have W:=oU U;refine xR (jA 2 rfl (jN c (aF c oQ.f1 λ_ X=>aR X λ_ Y=>jL Y λ_=>xC 1 rfl (kJ W (xN ?_)))));exact jf ls
  refine xR (jA 2 rfl (jN c (aF c oQ.f1 λ_ Z=>aR Z λ_ h5=>jL h5 λx=>xC 1 rfl (kO (xX f) (xY ?_)))));have j1:=dS (Ah f) x;refine uV (qZ (λs2=>.st [(0,xA d),(1,e),(5,xA (i:Int)),(62,.bool s2)] []) ?_ (λ_=>?_))
  ·
   refine jQ (zA 2 rfl (jqN c (cI c oQ.f0 λ_ h6=>kI h6 λi3=>zA 1 rfl (jqN c (cI c oQ.f1 λ_ h7=>eZ h7 λ_ h8=>zA 1 rfl (lM h8 t (λ_ h9=>?_)))))));refine eZ h9 λ_ y=>jB λz3 c3=>(jqk (λH=>xIn z3 c3 _ aA j i3 (H.a y)) (zA 2 rfl (fD 40 (λ_=>?_) (λ_=>?_))))
   ·refine zA 22 rfl (nD (eD ?_));exact jf ls
   refine zA 3 rfl (fD 43 (λ_=>?_) (λ_=>?_))
   ·refine zA 1 rfl (jqN c (cI c oQ.f1 λ_ z=>eZ z λ_ A=>zA 1 rfl (jB λz4 c4=>(jqv (λF H w l=>xBb F rfl rfl c4) (jB λz5 c5=>(lM A c5 λ_ C=>eZ C λ_ E=>zA 1 rfl ?_))))));refine jqN c (cI c oQ.f1 λ_ G=>eZ G λ_ I=>zA 1 rfl (lM I t λ_ K=>eZ K λ_ L=>jB λz6 c6=>(jqk (λH=>xGj z6 c6 _ aA (H.a E) (H.a L)) (zA 3 rfl (nD (eD ?_))))));exact jf ls
   refine zA 19 rfl (nD (eD ?_));exact jf ls
  refine eD (xT ?_ ?_)
  ·refine xI (oY 1 rfl (fZ (zR (fH (lD ?_)))));exact qT (rt rfl) lv
  refine qJ (jo rfl (xU (qG f x) (xC 1 rfl ?_)));exact jg ls
 refine oO (xS 1 rfl ?_);exact qT (rt rfl) lv
def aO (c:A6):Option Bool:= oZ (σ:=Unit) (oM (λi (d:Rel) s=>match s with | _=>xG (nZ c.size d) λe=>if (!e) then some (.ret false) else some (.go ())) c.rels 0 ()) λ_=>oZ (σ:=Bool) (xG (cU c.size) λf=>if f then  some (.nx (decide ((c.rels.length:Int)<=6))) else  some (.nx false)) λh=>some h
theorem pE {h} (r) (x:aO h=some r) {d} (f) (hN:HN B f) (c:Bo B f (Pt 2 xB) d h):CG B f 19 #[d] (.st (.bool r) λD=>D):=by
 unfold aO at x
 revert r
 refine vM func19 [(0,d)] hN λr=>?_;refine xI (xK 1 rfl (xC 1 rfl (qZ (λ_=>.st [(0,d)] []) ?_ (λ_=>?_))))
 ·
  refine zK (jl (λi _=>.st [(3,xA (i:Int)),(0,d)] []) ls (λ_ _ _ y=>?_) (λi _ _ e z=>?_))
  ·have A:=oU y;refine xR (jA 2 rfl (jN c (aF c xB.f1 λ_ C=>aR C λ_ E=>jL E λ_=>xC 1 rfl (kJ A (xN ?_)))));exact jf ls
  refine xR (jA 2 rfl (jN c (aF c xB.f1 λ_ F=>aR F λ_ G=>jL G λj=>xC 1 rfl (kO (xX e) (xY ?_)))));have j1:=dS (Ah e) j;refine uV (jQ (zA 1 rfl (jqN c (cI c xB.f0 λ_ I=>kI I λK=>zA 1 rfl (jqN c (cI c xB.f1 λ_ L=>eZ L λ_ M=>zA 1 rfl ?_))))));refine lM M z λ_ N=>jB λO P=>(jqk (λH=>xOz O P _ aA K (H.a N)) (zA 1 rfl (nD (eD (xT ?_ ?_)))))
  ·refine xI (oY 1 rfl (fZ (zR (fH (lD ?_)))));exact qT (rt rfl) lv
  refine qJ (jo rfl (xU (qG e j) (xC 1 rfl ?_)));exact jg ls
 refine xMp (qZ (λQ=>.st [(2,.bool Q)] []) ?_ (λ_=>?_))
 ·
  refine lP (jo rfl (jN c (aF c xB.f0 λ_ R=>aP R λS=>jB λT U=>(jk (λH=>pX T U _ aA S) (jo rfl (fD 30 (λ_=>?_) (λ_=>?_)))))))
  ·refine jo rfl (jN c (aF c xB.f1 λ_ p=>aR p λ_ t=>jL t λ_=>xC 3 rfl ?_));exact jf ls
  refine xC 8 rfl ?_;exact jf ls
 refine nH ?_;exact qT (rt rfl) lv
def lS (c:List Int) (d:Int):Option Bool:= oZ (σ:=Unit) (oM (λi (e:Int) s=>match s with | _=>xG (ck (d - 1)) λf=>xG (zZ e 0 f) λh=>if (!h) then some (.ret false) else some (.go ())) c 0 ()) λ_=>some true
theorem xGi {i c} (r) (x:lS i c=some r) {d} (f) (hN:HN B f) (h:Bo B f (Sl 1 xF) d i) (I:xL c):CG B f 55 #[d,xA c] (.st (.bool r) λD=>D):=by
 unfold lS at x
 revert r
 refine vM func55 [(0,d),(1,xA c)] hN λr=>?_;refine xI (xK 1 rfl (xC 1 rfl (qZ (λ_=>.st [] []) ?_ (λ_=>?_))))
 ·
  refine zK (jl (λj _=>.st [(5,xA (j:Int)),(0,d),(1,xA c)] []) ls (λ_ _ _ y=>?_) (λj _ _ e z=>?_))
  ·have A:=oU y;refine xR (jA 2 rfl (jL h λ_=>xC 1 rfl (kJ A (xN ?_))));exact jf ls
  refine xR (jA 2 rfl (jL h λp=>xC 1 rfl (kO (xX e) (xY ?_))));have j1:=dS (Ah e) p;refine qE (jA 2 rfl (jI h z λ_ C=>aP C λE=>jo rfl (jB λK t=>(gM t (jB λF G=>(jk (λH=>kH F G _ aA E xO (kA t)) (xC 1 rfl ?_)))))));refine xT ?_ ?_
  ·refine xI (oY 1 rfl (fZ (zR (fH (lD ?_)))));exact qT (rt rfl) lv
  refine qJ (jo rfl (xU (qG e p) (xC 1 rfl ?_)));exact jg ls
 refine oO (xS 1 rfl ?_);exact qT (rt rfl) lv
def iS (e:A6) (c:A7):Option Bool:= oZ (σ:=Bool) (xG (aO e) λf=>if (!f) then  some (.nx true) else  xG (zZ c.vars 1 10) λh=>if (!h) then  some (.nx true) else  some (.nx (decide (24<(c.cons.length:Int))))) λi=>if i then some false else oZ (σ:=Unit) (oM (λz (d:Con) s=>match s with | _=>oZ (σ:=Bool) (xG (ck ((e.rels.length:Int) - 1)) λj=>xG (zZ d.rel 0 j) λp=>if (!p) then  some (.nx true) else  xG (ix e.rels d.rel) λt=>if ((d.scope.length:Int) != t.arity) then  some (.nx true) else  xG (lS d.scope c.vars) λx=>some (.nx (!x))) λy=>if y then some (.ret false) else some (.go ())) c.cons 0 ()) λ_=>some true
theorem sV {t x} (r) (S:iS t x=some r) {e f} (i) (hN:HN B i) (h:Bo B i (Pt 2 xB) e t) (c:Bo B i (Pt 2 xH) f x):CG B i 33 #[e,f] (.st (.bool r) λD=>D):=by
 unfold iS at S
 revert r
 refine vM func33 [(0,e),(1,f)] hN λr=>?_;refine xI (jo rfl (nE (qZ (λT=>.st [(0,e),(1,f),(25,.bool T)] []) ?_ (λ_=>?_))))
 ·
  refine lP (jo rfl (jB λU W=>(jk (λH=>pE U W _ aA (H.a h)) (jA 2 rfl (fD 10 (λ_=>?_) (λ_=>?_))))))
  ·refine xC 15 rfl ?_;exact jf ls
  refine jo rfl (jN c (aF c xH.f0 λ_ X=>aP X λY=>jB λZ c2=>(jk (λH=>kH Z c2 _ aA Y zL xPn) (jA 3 rfl (fD 18 (λ_=>?_) (λ_=>?_))))))
  ·refine xC 7 rfl ?_;exact jf ls
  refine jo rfl (jN c (aF c xH.f1 λ_ h2=>aR h2 λ_ h3=>jL h3 λ_=>xC 2 rfl ?_));exact jf ls
 refine eD (xT ?_ ?_)
 ·refine xI (oE 1 rfl ?_);exact qT (rt rfl) lv
 refine vT (xC 1 rfl (qZ (λ_=>.st [] []) ?_ (λ_=>?_)))
 ·
  refine zK (jl (λp _=>.st [(5,xA (p:Int)),(0,e),(1,f)] []) ls (λ_ _ _ q1=>?_) (λp x2 _ j y1=>?_))
  ·have l1:=oU q1;refine xR (jA 2 rfl (jN c (aF c xH.f1 λ_ h4=>aR h4 λ_ h5=>jL h5 λ_=>xC 1 rfl (kJ l1 (xN ?_)))));exact jf ls
  refine xR (jA 2 rfl (jN c (aF c xH.f1 λ_ h6=>aR h6 λ_ h7=>jL h7 λy=>xC 1 rfl (kO (xX j) (xY ?_)))));have j1:=dS (Ah j) y;refine qE (jo rfl (jN c (aF c xH.f1 λ_ h8=>aR h8 λ_ h9=>jo rfl (jI h9 y1 λ_ d=>xW 1 rfl (qZ (λs2=>.st [(0,e),(1,f),(5,xA (p:Int)),(83,.bool s2)] []) ?_ (λ_=>?_))))))
  ·
   refine jQ (zA 1 rfl (jqN d (cI d vS.f0 λ_ A=>kI A λi3=>zA 1 rfl (jqN h (cI h xB.f1 λ_ C=>eZ C λ_ E=>jqL E λ_=>jB λz3 z=>?_)))));refine jqv (λF H w l=>xBb F rfl rfl z) (jB λz4 c4=>(jqk (λH=>kH z4 c4 _ aA i3 xO (kA z)) (zA 2 rfl (fD 53 (λ_=>?_) (λ_=>?_)))))
   ·refine zA 30 rfl (nD (eD ?_));exact jf ls
   refine zA 1 rfl (jqN d (cI d vS.f1 λ_ G=>eZ G λ_ I=>jqL I λ_=>zA 1 rfl (jqN h (cI h xB.f1 λ_ K=>eZ K λ_ L=>zA 1 rfl (jqN d ?_)))));refine cI d vS.f0 λ_ M=>kI M λ_=>jB λz5 c5=>(lM L c5 λ_ N=>cI N oQ.f0 λ_ O=>kI O λ_=>zA 3 rfl (fD 72 (λ_=>?_) (λ_=>?_)))
   ·refine zA 11 rfl (nD (eD ?_));exact jf ls
   refine zA 1 rfl (jqN d (cI d vS.f1 λ_ P=>eZ P λ_ Q=>zA 1 rfl (jqN c (cI c xH.f0 λ_ R=>kI R λi4=>jB λz6 c6=>(jqk (λH=>xGi z6 c6 _ aA (H.a Q) i4) (zA 2 rfl ?_))))));refine nD (eD ?_);exact jf ls
  refine eD (xT ?_ ?_)
  ·refine xI (oY 1 rfl (fZ (zR (fH (lD ?_)))));exact qT (rt rfl) lv
  refine qJ (jo rfl (xU (qG j y) (xC 1 rfl ?_)));exact jg ls
 refine oO (xS 1 rfl ?_);exact qT (rt rfl) lv
def cY (c:Int):Option Bool:= xG (zZ c 1 3) λd=>some d
theorem sG {c} (r) (f:cY c=some r) (d) (hN:HN B d) (e:xL c):CG B d 99 #[xA c] (.st (.bool r) λD=>D):=by
 unfold cY at f
 revert r
 refine vM func99 [(0,xA c)] hN λr=>?_;refine xI (xM 1 rfl (jo rfl (jB λh i=>(jk (λH=>kH h i _ aA e zL lL) (xS 1 rfl ?_)))));exact qT (rt rfl) lv
def qD (N:Nat) (f h:Int):Option Int:= oZ (σ:=Int×Int) (mL (λs=>match s with | (c,d)=>if (decide (0<c)) then xG (ck (d*f)) λi=>xG (ck (c - 1)) λj=>some (.go (j,i)) else some (.brk (c,d))) N (h,1)) λ(p,e)=>some e
theorem zH {c d} (r) (y:qD N c d=some r) (i) (hN:HN B i) (E:xL c) (x:xL d):CG B i 100 #[xA c,xA d] (.fa (xL r) <| .st (xA r) λD=>D):=by
 unfold qD at y
 revert r
 refine vM func100 [(0,xA c),(1,xA d)] hN λr=>?_;refine xI (xM 1 rfl (xW 1 rfl (qZ (λ(j,e)=>.fa (xL j) <| .fa (xL e) <| .st [(5,xA e)] []) ?_ (λ(j,e) _ z=>?_))))
 ·
  refine zK ?_;refine jw (λ(f,h)=>.fa (xL f) <| .fa (xL h) <| .st [(0,xA c),(1,xA f),(5,xA h)] []) ⟨x,zL,ls⟩ (λ_ (f,h) A C=>?_);refine xR (xC 2 rfl (xT ?_ ?_))
  ·refine xOs (jA 2 rfl (jB λF p=>(wT p (kZ 1 rfl (jo rfl (jB λG t=>(gM t (xC 1 rfl ?_))))))));exact jg ⟨(kA t),(kA p),ls⟩
  refine nS (jbk (wJ ?_));exact jf ⟨A,C,ls⟩
 refine oO (xS 2 rfl ?_);exact qT (rt rfl) ⟨z,lv⟩
def bB (N:Nat) (c d f:Int):Option (Op×Int):= xG (cU c) λj=>if (!j) then some ((Op.mk 0 ([])),1) else oZ (σ:=Bool) (xG (cY d) λp=>if (!p) then  some (.nx true) else  xG (ck (c - 1)) λt=>xG (zZ f 0 t) λi=>some (.nx (!i))) λx=>if x then some ((Op.mk 0 ([])),2) else xG (qD N c d) λy=>oZ (σ:=Int×(List Int)) (mL (λs=>match s with | (e,h)=>if (decide (0<e)) then xG (ap h ([f])) λz=>xG (ck (e - 1)) λA=>some (.go (A,z)) else some (.brk (e,h))) N (y,[])) λ(C,B)=>some ((Op.mk d B),0)
theorem wD {f c d} (r) (M:bB N f c d=some r) (A) (hN:HN B A) (x:xL f) (i:xL c) (y:xL d):CG B A 56 #[xA f,xA c,xA d] (.v λz=>.fa (xL r.1.arity) <| .fa (xL r.2) <| .st (.tuple #[.agg #[xA r.1.arity,z],xA r.2]) λD=>rl 1 xF 2 z r.1.table::D):=by
 unfold bB at M
 revert r
 refine vM func56 [(0,xA f),(1,xA c),(2,xA d)] hN λr=>?_;refine xI (aK rfl λe=>xK 1 rfl (jo rfl (jB λO P=>(jk (λH=>pX O P _ aA x) (xC 1 rfl (xT ?_ ?_))))))
 ·refine xI (oV e5 (zX e3 (oE 1 rfl ?_)));exact nJ (λH=>(H.nl 1 xF 2).s [0] rfl rfl) (dA 0 e2) (rt rfl) ⟨_,xO,zL,lv⟩
 refine xLb ?_;refine qZ (λQ=>.st [(0,xA f),(1,xA c),(2,xA d),(6,oK e),(23,.bool Q)] [bx e [xA 0,kW] 85]) ?_ (λ_=>?_)
 ·
  refine lP (jo rfl (jB λR S=>(jk (λH=>sG R S _ aA i) (jA 2 rfl (fD 17 (λ_=>?_) (λ_=>?_))))))
  ·refine xC 6 rfl ?_;exact jf ls
  refine jA 2 rfl (jB λZ C=>(gM C (jB λK T=>(jk (λH=>kH K T _ aA y xO (kA C)) (xC 2 rfl ?_)))));exact jf ls
 refine eD (xT ?_ ?_)
 ·refine xI (oV e5 (zX e3 (oE 1 rfl ?_)));exact nJ (λH=>(H.nl 1 xF 2).s [0] rfl rfl) (dA 0 e2) (rt rfl) ⟨_,xO,rH,lv⟩
 refine qR (jo rfl (oV e5 (aK rfl λh=>zX e3 (dZ (jA 2 rfl (jB λU W=>(jk (λH=>zH U W _ aA x i) λL=>xC 1 rfl ?_)))))));refine qZ (λ(E,F)=>.v λj=>.fa (xL E) <| .st [(6,oK e),(8,oK h)] [rl 1 xF 2 j F,bx h [xA c,j] 85,bx e [xA 0,kW] 85]) ?_ (λ(E,F) j _=>?_)
 ·
  refine zK (jh (λH=>H.nl 1 xF 2) ?_);refine jw (λ(p,G)=>.v λt=>.fa (xL p) <| .st [(2,xA d),(6,oK e),(8,oK h),(9,xA p)] [rl 1 xF 2 t G,bx h [xA c,t] 85,bx e [xA 0,kW] 85]) ⟨_,L,ls⟩ (λ_ (p,G) t X=>?_);refine xR (xC 2 rfl (xT ?_ ?_))
  ·refine xOs (xZ e2 (jb 1 e3 (jo rfl (lQ (λH=>Eo.int y) λ_=>jB λz5 Y=>(js [1,0,2,3] rfl (jPL Y λv3=>xZ e2 (js [1,0,2] rfl (jW (hv:=(λH=>(H.l 1 rfl).one)) e3 ?_))))))));refine dQ (jo rfl (jB λz6 I=>(gM I (xC 1 rfl (js [1,0,2] rfl ?_)))));exact jg ⟨_,(kA I),ls⟩
  refine nS (jbk (wJ ?_));exact jf ⟨_,X,ls⟩
 refine oO (aG 1 e3 (js [2,0,1] rfl ?_));refine zX (hv:=(λH=>oc rfl (oc (H.l 1 rfl).one on))) e3 (xS 1 rfl ?_);exact nJ (λH=>H.s [1] rfl rfl) (dA 0 e2) (rt rfl) ⟨_,i,xO,lv⟩
def nP (N:Nat) (c d:Int):Option (Int×Int×(List Bool)):= xG (qD N c d) λe=>xG (pN (false:Bool) e) λf=>some ((c,d,f))
theorem xIm {c d} (r) (p:nP N c d=some r) (j) (hN:HN B j) (e:xL c) (f:xL d):CG B j 231 #[xA c,xA d] (.n λh=>.v λi=>.fa (xL r.1) <| .fa (xL r.2.1) <| .st (oK h) λD=>bx h [xA r.1,xA r.2.1,i] 277::rl 1 aC 4 i r.2.2::D):=by
 unfold nP at p
 revert r
 refine vM func231 [(0,xA c),(1,xA d)] hN λr=>?_;refine xI (xM 1 rfl (jA 4 rfl (jB λt x=>(jk (λH=>zH t x _ aA e f) λz=>jB λA y=>?_))));refine jRM (R:=aC) (λw=>⟨rfl,rfl⟩) y (λC=>?_);refine oV (hone:=(λH=>oc rfl (oc rfl (oc (H.l 0 rfl).one on)))) e5 (jX e2 λE=>xS 1 rfl ?_);exact j1 (rt rfl) ⟨_,_,e,f,lv⟩
def kV (c:Int) (d:List Int):Option Int:= oZ (σ:=Int) (oM (λp e f=>xG (ck (f*c)) λh=>xG (ck (h+e)) λi=>some (.go i)) d 0 0) λj=>some j
theorem mC {c p} (r) (E:kV c p=some r) {d} (f) (hN:HN B f) (L:xL c) (h:Bo B f (Sl 1 xF) d p):CG B f 173 #[xA c,d] (.fa (xL r) <| .st (xA r) λD=>D):=by
 unfold kV at E
 revert r
 refine vM func173 [(0,xA c),(1,d)] hN λr=>?_;refine xI (xM 1 rfl (xK 1 rfl (xC 1 rfl (qZ (λt=>.fa (xL t) <| .st [(5,xA t)] []) ?_ (λ_ F=>?_)))))
 ·
  refine zK ?_;refine jl (λj i=>.fa (xL i) <| .st [(6,xA (j:Int)),(0,xA c),(1,d),(5,xA i)] []) ⟨xO,ls⟩ (λ_ i _ z G=>?_) (λj _ _ e A _=>?_)
  ·have C:=oU z;refine xR (jA 2 rfl (jL h λ_=>xC 1 rfl (kJ C (xN ?_))));exact jf ⟨G,ls⟩
  refine xR (jA 2 rfl (jL h λx=>xC 1 rfl (kO (xX e) (xY ?_))));have K:=dS (Ah e) x;refine xAp (jA 2 rfl (jB λM H=>(wT H (jA 2 rfl (jI h A λ_ I=>aP I λ_=>jB λN y=>(bN y (kZ 1 rfl ?_)))))));refine jo rfl (xU (qG e x) (xC 1 rfl ?_));exact jg ⟨(kA y),ls⟩
 refine oO (xS 2 rfl ?_);exact qT (rt rfl) ⟨F,lv⟩
def cX (N:Nat) (d:Int) (e:Rel):Option (Int×Int×(List Bool)):= xG (nP N d e.arity) λc=>oZ (σ:=List Bool) (oM (λp (i:(List Int)) f=>xG (kV d i) λh=>xG (ix f h) λt=>some (.go (f.set (h).toNat true))) e.tuples 0 c.2.2) λj=>some ((c.1,c.2.1,j))
theorem sH {d F} (r) (M:cX N d F=some r) {h} (t) (hN:HN B t) (z:xL d) (c:Bo B t (Pt 2 oQ) h F):CG B t 158 #[xA d,h] (.n λA=>.v λC=>.fa (xL r.1) <| .fa (xL r.2.1) <| .st (oK A) λD=>bx A [xA r.1,xA r.2.1,C] 277::rl 1 aC 4 C r.2.2::D):=by
 unfold cX at M
 revert r
 refine vM func158 [(0,xA d),(1,h)] hN λr=>?_;refine xI (xM 1 rfl (jA 2 rfl (jN c (aF c oQ.f0 λ_ O=>aP O λP=>jB λe Q=>(jk (λH=>xIm e Q _ aA z P) λf v2 R S=>xK 1 rfl ?_)))));refine xC 1 rfl ?_;refine qZ (λT=>.v λx=>.st [(5,oK f)] [bx f [xA e.1,xA e.2.1,x] 277,rl 1 aC 4 x T]) ?_ (λ_ x=>?_)
 ·
  refine zK ?_;refine jl (λG y=>.v λi=>.st [(6,xA (G:Int)),(0,xA d),(1,h),(5,oK f)] [bx f [xA e.1,xA e.2.1,i] 277,rl 1 aC 4 i y]) ⟨_,ls⟩ (λ_ y _ U i=>?_) (λG _ y j W i=>?_)
  ·have X:=oU U;refine xR (jA 2 rfl (jN c (aF c oQ.f1 λ_ Y=>aR Y λ_ Z=>jL Z λ_=>xC 1 rfl (kJ X (xN ?_)))));exact jf ⟨_,ls⟩
  refine xR (jA 2 rfl (jN c (aF c oQ.f1 λ_ h4=>aR h4 λ_ h5=>jL h5 λI=>xC 1 rfl (kO (xX j) (xY ?_)))));have j2:=dS (Ah j) I;refine zK (jB λz2 c2=>(jB λz3 K=>(cZ λ_ _ _ E g1 e1 p _=>(jD (zF [0,1] rfl (kB 2 rfl e2 (iG 3 rfl g1.bk e2 (zF [4,5] rfl (jvN 6 rfl c (iO 7 rfl c oQ.f1 (λ_ h6=>?_)))))))))));refine rK (s:=λH w l=>(E.trans (Sm.mono (H.v w l) p.2.2))) 8 rfl h6 λ_ h7=>zF [9] rfl (pQ 10 rfl h7 W λ_ h8=>rK (s:=λH w l=>(E.trans (Sm.mono (H.v w l) p.2.2))) 11 rfl h8 λ_ h9=>jE 12 rfl (jk (λH=>mC z2 c2 _ aA z (H.a (e1 h9))) λaa=>qK (jE 13 rfl (jRl 0 K λ_ L=>qK (jE 14 rfl ?_)))));refine jh (λH=>H.lw) (jS L (dL K) (λH=>Eo.bool) rfl (jh (λH=>H.tl) (qK (iT (aH (jo rfl (xU (qG j I) (xC 1 rfl (aI p ?_)))))))));exact jg ⟨_,ls⟩
 refine oO (xS 2 rfl ?_);exact j1 (rt rfl) ⟨_,_,R,S,lv⟩
def vZ (N:Nat) (f h i:Int):Option (List Int):= xG (pN (0:Int) h) λj=>xG (ck (h - 1)) λp=>oZ (σ:=Int×Int×(List Int)) (mL (λs=>match s with | (e,c,d)=>if (decide (0<=c)) then xG (rm e f) λt=>xG (ix d c) λA=>xG (dv e f) λx=>xG (ck (c - 1)) λy=>some (.go (x,y,(d.set (c).toNat t))) else some (.brk (e,c,d))) N (i,p,j)) λ(B,C,z)=>some z
theorem bM {c d e} (r) (P:vZ N c d e=some r) (y) (hN:HN B y) (L:xL c) (T:xL d) (M:xL e):CG B y 107 #[xA c,xA d,xA e] (.v λp=>.st (p) λD=>rl 1 xF 2 p r::D):=by
 unfold vZ at P
 revert r
 refine vM func107 [(0,xA c),(1,xA d),(2,xA e)] hN λr=>?_;refine xI (xM 1 rfl (jo rfl (jB λU Q=>?_)));refine jRM (R:=xF) (λw=>⟨rfl,by decide,rfl⟩) Q λW=>xK 1 rfl (jo rfl (jB λX t=>(gM t (xC 1 rfl (qZ (λ(z,A,C)=>.v λf=>.fa (xL z) <| .fa (xL A) <| .st [(7,f)] [rl 1 xF 2 f C]) ?_ (λ(z,A,C) f _ _=>?_))))))
 ·
  refine zK ?_;refine jw (λ(h,i,x)=>.v λj=>.fa (xL h) <| .fa (xL i) <| .st [(0,xA c),(2,xA h),(7,j),(8,xA i)] [rl 1 xF 2 j x]) ⟨_,M,(kA t),ls⟩ (λ_ (h,i,x) j E S=>?_);refine xR (xC 2 rfl (xT ?_ ?_))
  ·refine nK (jA 4 rfl (jB λY F=>(xNy F (jB λZ G=>(jRl 0 G λ_ O=>jh (λH=>H.lw) (jS O (dL G) (λH=>Eo.int (xGs F E L)) rfl (jh (λH=>H.tl) (lT (jA 2 rfl ?_)))))))));refine jB λz5 I=>(xRi I (kZ 1 rfl (jo rfl (jB λz6 K=>(gM K (xC 1 rfl ?_))))));exact jg ⟨_,(oCb I),(kA K),ls⟩
  refine nS (jbk (wJ ?_));exact jf ⟨_,E,S,ls⟩
 refine oO (xS 2 rfl ?_);exact j1 (rt rfl) ⟨_,lv⟩
def qV (c:Int) (d:Op) (e:List Int):Option Int:= xG (kV c e) λf=>xG (ix d.table f) λh=>some h
theorem kY {c h i} (r) (x:qV c h i=some r) {e f} (d) (hN:HN B d) (p:xL c) (j:Bo B d (Pt 2 vU) e h) (y:Bo B d (Sl 1 xF) f i):CG B d 113 #[xA c,e,f] (.fa (xL r) <| .st (xA r) λD=>D):=by
 unfold qV at x
 revert r
 refine vM func113 [(0,xA c),(1,e),(2,f)] hN λr=>?_;refine xI (xW 1 rfl (jQ (zA 1 rfl (jqN j (cI j vU.f1 λ_ z=>eZ z λ_ A=>zA 2 rfl (jB λC t=>(xRo (λH=>mC C t _ aA p (H.a y)) (λ_=>?_))))))));refine jB λI E=>(lM A E λ_ F=>kI F λG=>zA 1 rfl (nD (nH ?_)));exact qT (rt rfl) ⟨G,lv⟩
def mY (d:Int) (e:Op) (c:List (List Int)):Option (List Int):= xG (ix c 0) λf=>oZ (σ:=List Int) (qM (λh i=>oZ (σ:=List Int) (oM (λC j p=>xG (ix j (h:Int)) λt=>xG (ap p ([t])) λx=>some (.go x)) c 0 []) λy=>xG (qV d e y) λz=>xG (ap i ([z])) λA=>some (.go A)) (f.length:Int).toNat 0 []) λB=>some B
theorem xKh {d C E} (r) (P:mY d C E=some r) {e f} (p) (hN:HN B p) (N:xL d) (Q:Bo B p (Pt 2 vU) e C) (i:Bo B p (Sl 1 (kP 1 xF)) f E):CG B p 230 #[xA d,e,f] (.v λA=>.st (A) λD=>rl 1 xF 2 A r::D):=by
 unfold mY at P
 revert r
 refine vM func230 [(0,xA d),(1,e),(2,f)] hN λr=>?_;refine xI (xM 1 rfl (jR0 xF λv3=>xK 1 rfl (xC 1 rfl (jB λz1 F=>(qZ (λR=>.v λy=>.st [(7,y)] [rl 1 xF 2 y R]) ?_ (λ_ y=>?_))))))
 ·
  refine zK ?_;refine jc (λt j=>.v λc=>.st [(8,xA (t:Int)),(0,xA d),(1,e),(2,f),(7,c)] [rl 1 xF 2 c j]) ⟨_,ls⟩ (λ_ j _ h c=>?_) (λ_ t j h c=>?_)
  ·have S:=vD h;refine xR (jA 2 rfl (jI i F λ_ T=>aR T λ_ U=>jL U λ_=>xC 1 rfl (kJ S (xN ?_))));exact jf ⟨_,ls⟩
  refine xR (jA 2 rfl (jI i F λ_ W=>aR W λ_ X=>jL X λG=>xC 1 rfl (kO (qP h) (xY ?_))));have j2:=dT h G;refine qE (jR0 xF λv6=>xK 1 rfl (xC 1 rfl (qZ (λY=>.v λI=>.st [(0,xA d),(1,e),(2,f),(7,c),(8,xA (t:Int)),(9,I)] [rl 1 xF 2 I Y,rl 1 xF 2 c j]) ?_ (λ_ _=>?_))))
  ·
   refine zK ?_;refine jl (λK L=>.v λz=>.st [(10,xA (K:Int)),(0,xA d),(1,e),(2,f),(7,c),(8,xA (t:Int)),(9,z)] [rl 1 xF 2 z L,rl 1 xF 2 c j]) ⟨_,ls⟩ (λ_ L _ Z z=>?_) (λK _ _ x y1 _=>?_)
   ·have l2:=oU Z;refine xR (jA 2 rfl (jL i λ_=>xC 1 rfl (kJ l2 (xN ?_))));exact jf ⟨_,ls⟩
   refine xR (jA 2 rfl (jL i λM=>xC 1 rfl (kO (xX x) (xY ?_))));have j3:=dS (Ah x) M;refine xAp (jA 3 rfl (jI i y1 λ_ h5=>aR h5 λ_ h6=>jo rfl (jB λz2 c2=>(jI h6 c2 λ_ h7=>aP h7 λi3=>lQ (λH=>Eo.int i3) λ_=>jB λz3 c3=>(js [1,0,2] rfl ?_)))));refine jPL c3 λv9=>kZ 1 rfl (jo rfl (xU (qG x M) (xC 1 rfl ?_)));exact jg ⟨_,ls⟩
  refine xMt (jA 4 rfl (jB λz4 c4=>(jk (λH=>kY z4 c4 _ aA N (H.a Q) (H.l 0 rfl)) λO=>lQ (λH=>Eo.int O) λ_=>jB λz5 c5=>(js [2,0,1] rfl (jPL c5 λab=>kZ 1 rfl (jo rfl ?_))))));refine xU (vY h G) (xC 1 rfl (js [0] rfl ?_));exact jg ⟨_,ls⟩
 refine oO (xS 2 rfl ?_);exact j1 (rt rfl) ⟨_,lv⟩
def lN (N:Nat) (d:Int) (e:Op) (c:Rel):Option ((List (List Int))×(List Int)×Bool):= xG (cX N d c) λi=>xG (qD N (c.tuples.length:Int) e.arity) λj=>oZ (σ:=Unit) (qM (λp s=>match s with | _=>xG (vZ N (c.tuples.length:Int) e.arity (p:Int)) λt=>oZ (σ:=List (List Int)) (oM (λI (x:Int) y=>xG (ix c.tuples x) λz=>xG (ap y ([z])) λA=>some (.go A)) t 0 []) λf=>xG (mY d e f) λh=>xG (kV d h) λB=>xG (ix i.2.2 B) λC=>if (!C) then oZ (σ:=List (List Int)) (oM (λK (D:(List Int)) E=>xG (zO D) λF=>xG (ap E ([F])) λG=>some (.go G)) f 0 []) λH=>some (.ret (H,h,true)) else some (.go ())) j.toNat 0 ()) λ_=>some ([],[],false)
theorem xGh {e Z y} (r) (hR:lN N e Z y=some r) {f i} (E) (hN:HN B E) (K:xL e) (z:Bo B E (Pt 2 vU) f Z) (A:Bo B E (Pt 2 oQ) i y):CG B E 157 #[xA e,f,i] (.v λU=>.v λW=>.st (.tuple #[U,W,.bool r.2.2]) λD=>rl 1 (kP 1 xF) 58 U r.1::rl 1 xF 2 W r.2.1::D):=by
 unfold lN at hR
 revert r
 refine vM func157 [(0,xA e),(1,f),(2,i)] hN λr=>?_;refine xI (xM 3 rfl (jo rfl (jN A (aF A oQ.f1 λ_ h1=>aR h1 λ_ h2=>jL h2 λi1=>xM 1 rfl (jA 2 rfl ?_)))));refine jB λd c1=>(jk (λH=>sH d c1 _ aA K (H.a A)) λj p _ _=>xM 1 rfl (jA 2 rfl (jN z (aF z vU.f0 λ_ h3=>aP h3 λi2=>jB λF c2=>(jk (λH=>zH F c2 _ aA i1 i2) λX=>jo rfl ?_)))));refine dZ (xC 1 rfl (qZ (λ_=>.st [] []) ?_ (λ_=>?_)))
 ·
  refine zK ?_;refine jc (λG _=>.st [(12,xA (G:Int)),(0,xA e),(1,f),(2,i),(9,xA (y.tuples.length:Int)),(10,oK j),(11,xA F)] [bx j [xA d.1,xA d.2.1,p] 277,rl 1 aC 4 p d.2.2]) ls (λ_ _ _ t=>?_) (λ_ G _ t=>?_)
  ·have l1:=vD t;refine xR (xC 3 rfl (kJ l1 (xN (js [] rfl ?_))));exact jf ls
  refine xR (xC 3 rfl (kO (qP t) (xY (qE (jA 2 rfl (jN z (aF z vU.f0 λ_ h4=>aP h4 λi3=>jo rfl ?_)))))));refine jB λz2 c3=>(jk (λH=>bM z2 c3 _ aA i1 i3 (dT t X)) λv4=>xM 1 rfl (jR0 (kP 1 xF) λv5=>xK 1 rfl (xC 1 rfl ?_)));refine qZ (λR=>.v λC=>.st [(0,xA e),(1,f),(2,i),(9,xA (y.tuples.length:Int)),(10,oK j),(11,xA F),(12,xA (G:Int)),(14,C)] [rw B 1 (kP 1 xF) 58 C R,bx j [xA d.1,xA d.2.1,p] 277,rl 1 aC 4 p d.2.2]) ?_ (λR C=>?_)
  ·
   refine zK (jh (λH=>H.lw) (jh (λH=>H.wk) ?_));refine jl (λk2 s2=>.v λS=>.st [(15,xA (k2:Int)),(0,xA e),(1,f),(2,i),(9,xA (y.tuples.length:Int)),(10,oK j),(11,xA F),(12,xA (G:Int)),(13,v4),(14,S)] [rw B 1 (kP 1 xF) 58 S s2,rl 1 xF 2 v4 z2,bx j [xA d.1,xA d.2.1,p] 277,rl 1 aC 4 p d.2.2]) ⟨_,ls⟩ (λ_ s2 _ q1 S=>?_) (λk2 _ _ L y1 _=>?_)
   ·have l2:=oU q1;refine xR (jA 2 rfl (jLc (λH=>H.l 1 rfl) λ_=>xC 1 rfl (kJ l2 (xN (js [0,2,3] rfl ?_)))));exact jf ⟨_,ls⟩
   refine xR (jA 2 rfl (jLc (λH=>H.l 1 rfl) λi4=>xC 1 rfl (kO (xX L) (xY ?_))));have j1:=dS (Ah L) i4;refine zK (jB λz3 c4=>(jB λz4 c5=>(js [1,0,2,3] rfl (cZ λ_ _ _ M g1 _ x _=>(jD (zF [0,1] rfl (jvN 2 rfl A (iO 3 rfl A oQ.f1 λ_ h5=>rK (s:=λH w l=>(M.trans (Sm.mono (H.v w l) x.2.2))) 4 rfl h5 λ_ h6=>zF [5,6] rfl ?_))))))));refine pQ 7 rfl g1.ld y1 λ_ h7=>aW 8 rfl h7 λ_=>pQ 9 rfl h6 c4 λ_ h8=>rK (s:=λH w l=>(M.trans (Sm.mono (H.v w l) x.2.2))) 10 rfl h8 λ_ h9=>jE 11 rfl (jR1 (N1:=B) (λc h=>(x.2.2 c h)) (λH=>Eo.sl (Bo.to h9 (M.trans (Sm.mono H.sm x.2.2)))) λ_=>qK (jE 12 rfl (js [1,0,2,3] rfl (jP c5 λv8=>qK ?_))));refine zF [13] rfl (iT (aH (jo rfl (xU (qG L i4) (xC 1 rfl (aI x (js [1,0,2,3] rfl ?_)))))));exact jg ⟨_,ls⟩
  refine oO (jA 3 rfl (jB λT c6=>(jk (λH=>xKh T c6 _ aA K (H.a z) (H.r 0 rfl)) λI=>xW 1 rfl (js [3,0,1,2] rfl (cZ λw1 X1 N2 _ g2 _ Y _=>(jQ (zA 2 rfl (sW e2 ?_))))))));refine jqb 2 e3 (zA 2 rfl (jB λz6 c7=>(xRo (λH=>mC z6 c7 _ aA K (H.l 0 rfl)) λ_=>jB λz7 c8=>(lM g2.ld c8 λ_ a9=>oKl a9 (zA 1 rfl (nD (eD (xT ?_ ?_))))))))
  ·
   refine xI (jR0 (kP 1 xF) λbf=>xK 1 rfl (xC 1 rfl (qZ (λs3=>.v λO=>.st [(16,I),(17,O)] [rl 1 (kP 1 xF) 58 O s3,rl 1 xF 2 I T]) ?_ (λ_ O=>?_))))
   ·
    refine zK (js [0,1,2] rfl ?_);refine jl (λk3 s4=>.v λP=>.st [(18,xA (k3:Int)),(14,C),(16,I),(17,P)] [rl 1 (kP 1 xF) 58 P s4,rl 1 xF 2 I T,rw B 1 (kP 1 xF) 58 C R]) ⟨_,ls⟩ (λ_ s4 _ q2 P=>?_) (λk3 _ _ Q y2 _=>?_)
    ·have l3:=oU q2;refine xR (jA 2 rfl (jLc (λH=>H.r 2 rfl) λ_=>xC 1 rfl (kJ l3 (xN (js [0,1] rfl ?_)))));exact jf ⟨_,ls⟩
    refine xR (jA 2 rfl (jLc (λH=>H.r 2 rfl) λi5=>xC 1 rfl (kO (xX Q) (xY ?_))));have j2:=dS (Ah Q) i5;refine xAp (jA 3 rfl (js [2,0,1] rfl (cZ λ_ _ _ _ g3 _ aa _=>(jI g3.rd y2 λ_ ab=>aR ab λ_ ac=>jB λz8 c9=>(jk (λH=>eA z8 c9 _ aA (H.a ac)) λ_=>jh (λH=>H.os) (uL (λH=>El.sl) λ_=>jB λz9 ad=>?_))))));refine js [1,0,2] rfl (jPL ad λbg=>kZ 1 rfl (jo rfl (xU (qG Q i5) (xC 1 rfl (aI aa (js [1,2,0] rfl ?_))))));exact jg ⟨_,ls⟩
   refine oO (oY 5 rfl (fZ (zR (fH (lD (aI Y (js [1,2] rfl ?_)))))));exact j3 (rt rfl) (rt rfl) (rt rfl) ⟨_,_,lv⟩
  refine qJ (jo rfl (xU (vY t X) (xC 1 rfl (js [2] rfl (aI Y (js [1,0] rfl ?_))))));exact jg ls
 refine oO (jR0 (kP 1 xF) λbh=>jR0 xF λbi=>xS 3 rfl (js [1,0] rfl ?_));exact j3 (rt rfl) (rt rfl) (rt rfl) ⟨_,_,lv⟩
def zY (N:Nat) (c:Int) (d:Op) (e:Rel):Option Bool:= xG (lN N c d e) λf=>some ((!f.2.2))
theorem xAg {c h i} (r) (p:zY N c h i=some r) {e f} (d) (hN:HN B d) (j:xL c) (t:Bo B d (Pt 2 vU) e h) (x:Bo B d (Pt 2 oQ) f i):CG B d 101 #[xA c,e,f] (.st (.bool r) λD=>D):=by
 unfold zY at p
 revert r
 refine vM func101 [(0,xA c),(1,e),(2,f)] hN λr=>?_;refine xI (xM 1 rfl (jA 3 rfl (jB λy z=>(jk (λH=>xGh y z _ aA j (H.a t) (H.a x)) λ_ _=>xM 7 rfl (xS 3 rfl ?_)))));exact qT (rt rfl) lv
def aN (N:Nat) (c:A6) (d:Op):Option Int:= oZ (σ:=Unit) (oM (λe (f:Rel) s=>match s with | _=>xG (zY N c.size d f) λh=>if (!h) then some (.ret ((e:Int))) else some (.go ())) c.rels 0 ()) λ_=>some ((-1))
theorem sP {i j} (r) (x:aN N i j=some r) {d e} (f) (hN:HN B f) (c:Bo B f (Pt 2 xB) d i) (y:Bo B f (Pt 2 vU) e j):CG B f 57 #[d,e] (.fa (xL r) <| .st (xA r) λD=>D):=by
 unfold aN at x
 revert r
 refine vM func57 [(0,d),(1,e)] hN λr=>?_;refine xI (xK 1 rfl (xC 1 rfl (qZ (λ_=>.st [] []) ?_ (λ_=>?_))))
 ·
  refine zK (jl (λp _=>.st [(5,xA (p:Int)),(0,d),(1,e)] []) ls (λ_ _ _ z=>?_) (λp _ _ h A=>?_))
  ·have C:=oU z;refine xR (jA 2 rfl (jN c (aF c xB.f1 λ_ E=>aR E λ_ F=>jL F λ_=>xC 1 rfl (kJ C (xN ?_)))));exact jf ls
  refine xR (jA 2 rfl (jN c (aF c xB.f1 λ_ G=>aR G λ_ I=>jL I λt=>xC 1 rfl (kO (xX h) (xY (uV ?_))))));refine jQ (zA 1 rfl (jqN c (cI c xB.f0 λ_ K=>kI K λL=>zA 2 rfl (jqN c (cI c xB.f1 λ_ M=>eZ M λ_ O=>zA 1 rfl (lM O A (λ_ P=>?_)))))));refine jB λQ R=>(jqk (λH=>xAg Q R _ aA L (H.a y) (H.a P)) (zA 1 rfl (nD (eD (xT ?_ ?_)))))
  ·refine xI (oY 2 rfl (fZ (zR (fH (lD ?_)))));exact qT (rt rfl) ⟨(dS (Ah h) t),lv⟩
  refine qJ (jo rfl (xU (qG h t) (xC 1 rfl ?_)));exact jg ls
 refine oO (xS 1 rfl ?_);exact qT (rt rfl) ⟨bC,lv⟩
def nR (c:A6) (d:Int):Option Int:= xG (aO c) λe=>if (!e) then some 1 else xG (cY d) λf=>if (!f) then some 2 else some 0
theorem xIl {f c} (r) (i:nR f c=some r) {d} (e) (hN:HN B e) (j:Bo B e (Pt 2 xB) d f) (h:xL c):CG B e 102 #[d,xA c] (.fa (xL r) <| .st (xA r) λD=>D):=by
 unfold nR at i
 revert r
 refine vM func102 [(0,d),(1,xA c)] hN λr=>?_;refine xI (xK 1 rfl (jo rfl (jB λp t=>(jk (λH=>pE p t _ aA (H.a j)) (xC 1 rfl (xT ?_ ?_))))))
 ·refine xI (oE 1 rfl ?_);exact qT (rt rfl) ⟨zL,lv⟩
 refine vT (jo rfl (jB λx y=>(jk (λH=>sG x y _ aA h) (xC 1 rfl (xT ?_ ?_)))))
 ·refine xI (oE 1 rfl ?_);exact qT (rt rfl) ⟨rH,lv⟩
 refine qR (xS 1 rfl ?_);exact qT (rt rfl) ⟨xO,lv⟩
def lX (c d:Int):Option Int:= if (decide (d<c)) then some c else some d
theorem xMq {c d} (r) (i:lX c d=some r) (e) (hN:HN B e) (f:xL c) (h:xL d):CG B e 232 #[xA c,xA d] (.fa (xL r) <| .st (xA r) λD=>D):=by
 unfold lX at i
 revert r
 refine vM func232 [(0,xA c),(1,xA d)] hN λr=>?_;refine xI (xK 1 rfl (xC 3 rfl (xT ?_ ?_)))
 ·refine xI (oE 2 rfl ?_);exact qT (rt rfl) ⟨f,lv⟩
 refine qR (xS 2 rfl ?_);exact qT (rt rfl) ⟨h,lv⟩
def jJ (N:Nat) (e:A6) (d:Int) (R:List B7) (p:List (List B4)) (S T:List Int) (U:Int) (W:Bool) (f:Int):Option (List (List B4)):= xG (ix e.rels f) λc=>xG (qD N (c.tuples.length:Int) d) λz=>oZ (σ:=List (List B4)) (qM (λA h=>xG (vZ N (c.tuples.length:Int) d (A:Int)) λB=>oZ (σ:=Int×(List Int)) (qM (λC s=>match s with | (D,E)=>oZ (σ:=List Int) (qM (λF G=>xG (ix B (F:Int)) λH=>xG (ix c.tuples H) λI=>xG (ix I (C:Int)) λK=>xG (ap G ([K])) λL=>some (.go L)) d.toNat 0 []) λM=>xG (kV e.size M) λi=>xG (ap E ([i])) λO=>xG (lX D i) λt=>some (.go (t,O))) c.arity.toNat 0 (0,[])) λ(j,P)=>xG (ix h j) λx=>xG (ap x ([(B4.mk f P)])) λy=>some (.go (h.set (j).toNat y))) z.toNat 0 p) λQ=>some Q
theorem pU {ac:A6} {p:Int} {x:List B7} {ad:List (List B4)} {y z:List Int} {t:Int} {A:Bool} {h:Int} (r:(List (List B4))) (hR:jJ N ac p x ad y z t A h=some r) {f:Nat} {C:Vl} {c:Vl} {ae:Vl} {d:Vl} {e:Vl} {X0:List Nat} (K:Wd) (hN:HN B K) (S0:Sep X0 B K K [bx f [C,xA p,c,ae,d,e,xA t,.bool A] 213,rw B 1 (RP 3 kQ) 214 c x,rl 1 (bO 2 qY 280) 281 ae ad,rl 1 xF 2 d y,rl 1 xF 2 e z]) (X:Bo B K (Pt 2 xB) C ac) (P:xL p) (hx0_6:xL t) (a1:xL h):Calls prog 159 #[oK f,xA h] K (Gt B K X0 (.v λaf=>.st (.tuple #[]) λD=>bx f [C,xA p,c,af,d,e,xA t,.bool A] 213::rw B 1 (RP 3 kQ) 214 c x::rl 1 (bO 2 qY 280) 281 af r::rl 1 xF 2 d y::rl 1 xF 2 e z::D)):=by
 unfold jJ at hR
 revert r
 refine jin func159 [(0,oK f),(1,xA h)] S0 λr=>?_;refine xI (jA 2 rfl (xZ e2 (jb 0 e3 (jN X (aF X xB.f1 λ_ h1=>aR h1 λ_ h2=>jo rfl (jB λT aw=>(jI h2 aw λU E=>jo rfl ?_)))))));refine qW (jo rfl (jN E (aF E oQ.f1 λ_ h4=>aR h4 λ_ h5=>jL h5 λi1=>xM 1 rfl (xC 1 rfl (jB λz2 c1=>?_)))));refine qZ (λs1=>.v λv1=>.st [(0,oK f)] [bx f [C,xA p,c,v1,d,e,xA t,.bool A] 213,rw B 1 (RP 3 kQ) 214 c x,rl 1 (bO 2 qY 280) 281 v1 s1,rl 1 xF 2 d y,rl 1 xF 2 e z]) ?_ (λ_ v1=>?_)
 ·
  refine zK ?_;refine jc (λL I=>.v λi=>.st [(6,xA (L:Int)),(0,oK f),(1,xA h),(4,U),(5,xA (T.tuples.length:Int))] [bx f [C,xA p,c,i,d,e,xA t,.bool A] 213,rw B 1 (RP 3 kQ) 214 c x,rl 1 (bO 2 qY 280) 281 i I,rl 1 xF 2 d y,rl 1 xF 2 e z]) ⟨_,ls⟩ (λ_ I _ Q i=>?_) (λ_ L I Q i=>?_)
  ·have l1:=vD Q;refine xR (jA 4 rfl (xZ e2 (jb 0 e3 (jk (λH=>zH z2 c1 _ aA i1 P) λa2=>xC 1 rfl (kJ l1 (xN ?_))))));exact jf ⟨_,ls⟩
  refine xR (jA 4 rfl (xZ e2 (jb 0 e3 (jk (λH=>zH z2 c1 _ aA i1 P) λa2=>xC 1 rfl (kO (qP Q) (xY ?_))))));have m1:=vY Q a2;refine qE (jA 3 rfl (xZ e2 (jb 0 e3 (jo rfl (jB λZ c2=>(jk (λH=>bM Z c2 _ aA i1 P (dT Q a2)) λM=>xM 1 rfl (jo rfl (oV e5 ?_))))))));refine aK rfl λF=>zX e3 (qW (xK 1 rfl (xC 1 rfl ?_)));refine qZ (λ(s3,s4)=>.v λv4=>.fa (xL s3) <| .st [(0,oK f),(1,xA h),(4,U),(5,xA (T.tuples.length:Int)),(6,xA (L:Int)),(8,oK F),(9,xA s3)] [rl 1 xF 2 v4 s4,bx F [xA h,v4] 280,bx f [C,xA p,c,i,d,e,xA t,.bool A] 213,rw B 1 (RP 3 kQ) 214 c x,rl 1 (bO 2 qY 280) 281 i I,rl 1 xF 2 d y,rl 1 xF 2 e z]) ?_ (λ(s3,s4) _ _=>?_)
  ·
   refine zK (jh (λH=>H.nl 1 xF 2) ?_);refine jc (λk2 (O,W)=>.v λG=>.fa (xL O) <| .st [(10,xA (k2:Int)),(0,oK f),(1,xA h),(4,U),(5,xA (T.tuples.length:Int)),(6,xA (L:Int)),(7,M),(8,oK F),(9,xA O)] [rl 1 xF 2 G W,bx F [xA h,G] 280,rl 1 xF 2 M Z,bx f [C,xA p,c,i,d,e,xA t,.bool A] 213,rw B 1 (RP 3 kQ) 214 c x,rl 1 (bO 2 qY 280) 281 i I,rl 1 xF 2 d y,rl 1 xF 2 e z]) ⟨_,xO,ls⟩ (λ_ (O,W) _ R G i2=>?_) (λ_ k2 (O,W) R G i2=>?_)
   ·have l2:=vD R;refine xR (jA 2 rfl (jN E (aF E oQ.f0 λ_ h6=>aP h6 λ_=>xC 1 rfl (kJ l2 (xN (js [0,1,3,4,5,6,7] rfl ?_))))));exact jf ⟨_,i2,ls⟩
   refine xR (jA 2 rfl (jN E (aF E oQ.f0 λ_ h7=>aP h7 λi3=>xC 1 rfl (kO (qP R) (xY ?_)))));have j1:=dT R i3;refine qE (jR0 xF λv6=>xK 1 rfl (xC 1 rfl ?_));refine qZ (λs7=>.v λv7=>.st [(0,oK f),(1,xA h),(4,U),(5,xA (T.tuples.length:Int)),(6,xA (L:Int)),(7,M),(8,oK F),(9,xA O),(10,xA (k2:Int)),(11,v7)] [rl 1 xF 2 v7 s7,rl 1 xF 2 G W,bx F [xA h,G] 280,rl 1 xF 2 M Z,bx f [C,xA p,c,i,d,e,xA t,.bool A] 213,rw B 1 (RP 3 kQ) 214 c x,rl 1 (bO 2 qY 280) 281 i I,rl 1 xF 2 d y,rl 1 xF 2 e z]) ?_ (λ_ _=>?_)
   ·
    refine zK ?_;refine jc (λk3 s8=>.v λv8=>.st [(12,xA (k3:Int)),(0,oK f),(1,xA h),(4,U),(5,xA (T.tuples.length:Int)),(6,xA (L:Int)),(7,M),(8,oK F),(9,xA O),(10,xA (k2:Int)),(11,v8)] [rl 1 xF 2 v8 s8,rl 1 xF 2 G W,bx F [xA h,G] 280,rl 1 xF 2 M Z,bx f [C,xA p,c,i,d,e,xA t,.bool A] 213,rw B 1 (RP 3 kQ) 214 c x,rl 1 (bO 2 qY 280) 281 i I,rl 1 xF 2 d y,rl 1 xF 2 e z]) ⟨_,ls⟩ (λ_ s8 _ S v8=>?_) (λ_ k3 _ S _=>?_)
    ·have l3:=vD S;refine xR (jA 3 rfl (xZ e2 (jb 4 e3 (xC 1 rfl (kJ l3 (xN ?_))))));exact jf ⟨_,ls⟩
    refine xR (jA 3 rfl (xZ e2 (jb 4 e3 (xC 1 rfl (kO (qP S) (xY ?_))))));have j2:=dT S P;refine zK (jB λz4 c3=>(jB λz5 c4=>(jB λz6 c5=>(jB λz7 c6=>(js [3,0,1,2,4,5,6,7,8] rfl (cZ λ_ _ _ a3 g1 _ Y _=>(jD (zF [0,1] rfl (jvN 2 rfl E (iO 3 rfl E oQ.f1 (λ_ h8=>?_)))))))))));refine rK (s:=λH w l=>(a3.trans (Sm.mono (H.v w l) Y.2.2))) 4 rfl h8 λ_ h9=>zF [5,6] rfl (pQ 7 rfl g1.ld c3 λ_ ax=>aW 8 rfl ax λ_=>pQ 9 rfl h9 c4 λ_ ay=>rK (s:=λH w l=>(a3.trans (Sm.mono (H.v w l) Y.2.2))) 10 rfl ay λ_ az=>zF [11] rfl (pQ 12 rfl az c5 λ_ b0=>aW (s:=λH w l=>(a3.trans (Sm.mono (H.v w l) Y.2.2))) 13 rfl b0 λi4=>jE 14 rfl (lQ (λH=>Eo.int i4) (λ_=>?_))));refine qK (jE 15 rfl (js [1,0,2,3,4,5,6,7,8] rfl (jPL c6 λv9=>qK (zF [16] rfl (iT (aH (jo rfl (xU (vY S P) (jo rfl ?_)))))))));refine kD (aI Y (js [1,2,3,0,4,5,6,7,8] rfl ?_));exact jg ⟨_,ls⟩
   refine oO (jA 2 rfl (xZ e2 (jb 4 e3 (jN X (aF X xB.f0 λ_ b1=>aP b1 λi5=>jo rfl (jB λz8 c7=>(jk (λH=>mC z8 c7 _ aA i5 (H.l 0 rfl)) λag=>jo rfl ?_)))))));refine qW (xZ e2 (jb 2 e3 (jo rfl (lQ (λH=>Eo.int ag) λ_=>jB λz9 c8=>(js [2,0,1,3,4,5,6,7,8,9] rfl (jPL c8 λv10=>xZ e2 (js [2,0,1,3,4,5,6,7,8] rfl (jW (hv:=(λH=>(H.l 1 rfl).one)) e3 ?_))))))));refine lT (jA 2 rfl (jB λb2 c9=>(jk (λH=>xMq b2 c9 _ aA i2 ag) λb3=>kZ 1 rfl (jo rfl (xU (vY R i3) (xC 1 rfl (js [1,0,3,4,5,6,7,8] rfl ?_)))))));exact jg ⟨_,b3,ls⟩
  refine eD (jB λz11 j=>(jB λz12 a4=>(js [1,2,0,3,4,5,6] rfl (jh (λH=>H.mg) (cZ λ_ _ _ _ g2 _ a5 _=>?_)))));have K1:=g2.r.bk;refine jD (zF [0,1] rfl (kB 2 rfl e2 (iG 3 rfl K1 e2 (zF [4,5,6] rfl (kB 7 rfl e2 (iG 8 rfl K1 e2 (zF [9] rfl (rY 12 rfl g2.l.bk e2 (eG (λH=>H) 10 13 rfl rfl ?_ ?_)))))))))
  ·
   refine jRl 2 j λ_ ah=>qK (eG (λH=>H) 11 13 rfl rfl ?_ ?_)
   ·refine js [2,0,1,3,4] rfl (xVk ah (rN j) λ_=>qK (jE 13 rfl (js [2,0,1,3,4,5] rfl (jh (λH=>qY.w a1 H) (uL (λH=>El.agg) λ_=>qK (jE 14 rfl (js [1,0,2,3,4,5] rfl (jPL a4 (λ_=>?_)))))))));refine qK (jE 15 rfl (jRl 1 (ixh j) λ_ b4=>qK (jE 16 rfl (js [1,0,2,3,4] rfl (xXa b4 (dL (ixh j)) rfl (qK (iT (aH (jo rfl ?_)))))))));refine xU m1 (xC 1 rfl (aI a5 (jh (λH=>H.um) (js [1,3,2,4,5] rfl ?_))));exact jg ⟨_,ls⟩
   refine jh (λH=>qY.w a1 H) (uL (λH=>El.agg) λ_=>qK (jE 11 rfl (js [2,0,1,3,4] rfl (xVk ah (rN j) λ_=>qK (jE 14 rfl (js [0,2,1,3,4,5] rfl (jPL a4 λ_=>qK ?_)))))));refine jE 15 rfl (jRl 1 (ixh j) λ_ b5=>qK (jE 16 rfl (js [1,0,2,3,4] rfl (xXa b5 (dL (ixh j)) rfl (qK (iT (aH (jo rfl (xU m1 ?_)))))))));refine xC 1 rfl (aI a5 (jh (λH=>H.um) (js [1,3,2,4,5] rfl ?_)));exact jg ⟨_,ls⟩
  refine jh (λH=>qY.w a1 H) (uL (λH=>El.agg) λ_=>qK (jE 10 rfl (jRl 2 j λ_ b6=>qK (jE 11 rfl (js [2,0,1,3,4] rfl (xVk b6 (rN j) λ_=>qK (jE 14 rfl ?_)))))));refine js [0,2,1,3,4,5] rfl (jPL a4 λ_=>qK (jE 15 rfl (jRl 1 (ixh j) λ_ b7=>qK (jE 16 rfl (js [1,0,2,3,4] rfl (xXa b7 (dL (ixh j)) rfl (qK (iT ?_))))))));refine aH (jo rfl (xU m1 (xC 1 rfl (aI a5 (jh (λH=>H.um) (js [1,3,2,4,5] rfl ?_))))));exact jg ⟨_,ls⟩
 refine a_z ?_;exact j0 ⟨_,lv⟩
end Go.Proofs.YtnjlbbfcngjhmaaGreat
