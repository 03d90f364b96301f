import Derived.Test.YtfmnjkpddljdcaaGreatDoorZ
import Derived.Test.YtfmnjkpddljdcaaGreatDoorNG
namespace Go.Proofs.YtfmnjkpddljdcaaGreatDoor
open Go.Proofs.Tryz
set_option maxHeartbeats 1000000
set_option linter.unusedVariables false
set_option linter.unusedSimpArgs false
set_option maxRecDepth 100000
open Go.RowKit
def lK (c d:List Int):Option (List Int):=
 kY (σ:=(List Int)) (
  qW (σ:=(List Int)) (ρ:=(List Int)) (fun (n:Nat) (e:Int) (f:(List Int))=>
   xY (ix c e) fun h=>
   xY (ap f ([h])) fun i=>
   some (.go i)) d 0 []) fun j=>
 some j
theorem xEw {B:Nat→Prop} {G f:List Int} (r:(List Int)) (d:lK G f=some r) {n:Value} {p:Value} (h:World) (S:∀ c,B c→c<h.heap.size) (T:Bo B h (Sl 1 xM) n G) (I:Bo B h (Sl 1 xM) p f):Calls Tryz.prog 158 #[n,p] h (Gv (fun v w'=>∃ (E:Value),v=E∧Sep [] B h w' [rl 1 xM 2 E r])):=by
 unfold lK at d
 refine xW (L:=[(0,n),(1,p)]) func158 rfl rfl rfl (sc rfl (sc rfl sn)) (fun a F=>?_);have H:=Sep.start S;refine xX (xA 1 F rfl fun a F=>zR (oR0 (R:=xM) xC xI F rfl H fun a w U H F=>xA 1 F rfl fun a F=>xJ ?_));refine xG (xX (xA 1 F rfl fun a F=>oL xC F rfl rfl I fun a J F=>xA 1 F rfl fun a F=>xJ ?_));obtain⟨K,d,M⟩:=xV d;refine qG (fun a w=>∃ (D:List Int) (t:Value),K= .nx D∧Sk a 24 [(5,t)]∧Sep [] B h w [rl 1 xM 2 t D]) ?_ ?_
 ·
  refine qM ?_;obtain⟨N,O,d⟩:=vY d;refine vT (fun g a w=>∃ (j:Nat) (i A:List Int) (C:Value),(j≤f.length∧f.drop j=i)∧i.length=g∧qW N i j A=some K∧Sk a 24 [(11,xF (j:Int)),(0,n),(5,C),(9,p),(10,xF (f.length:Int))]∧Sep [] B h w [rl 1 xM 2 C A]) f.length ?_ ?_
  ·
   exact⟨0,f,[],U,⟨Nat.zero_le _,rfl⟩,rfl,d,F.su,H⟩
  intro g1 a w ⟨j,i,A,C,e,P,d,F,H⟩
  cases i with
  | nil=>
   replace d:=vX d;have V:=vZ e.1 e.2;have l1:=kW V;refine xX (xA 1 F rfl fun a F=>xJ (xG (aC F rfl l1 (vU (vV (vV (bC ?_)))))));refine xH ?_;exact⟨A,C,(kQ d),F.su,H⟩
  | cons x2 i=>
   subst P;replace e:=qY e.2;have W:=zI e.2.1;obtain⟨a6,d,Q⟩:=vE d;rw[O] at d;have l1:=zT e.1;refine xX (xA 1 F rfl fun a F=>xJ (xG (aD F rfl l1 (xT (xH (xG ?_))))));have j1:=k64 (Nat.le_of_lt e.1) J;have X:=bG e.1 J;refine qM (xX (oI xC xI F rfl rfl rfl I W fun a p1 Y F=>olI xN F rfl rfl H.sm Y fun a i2 F=>xA 1 F rfl fun a F=>xJ (oO (xA 2 F rfl fun a F=>?_))));refine xA 1 F rfl fun a F=>?_;obtain⟨Z,c1,d⟩:=xB d;refine oI xC xI F rfl rfl rfl T c1 fun a p2 h2 F=>olI xN F rfl rfl H.sm h2 fun a i3 F=>iN (R:=xM) (y:=Z) xC xI qQ rfl rfl F rfl rfl H (Eo.int i3) (fun a w v5 H F=>?_);obtain⟨z2,c2,d⟩:=xB d;refine oPL (sz:=1) (R:=xM) (z:=(xF 0)) (bytes:=8) xC (by kernel_rfl) rfl rfl F rfl rfl rfl (H.s [1,0] rfl rfl) c2 fun a w v6 H F=>xA 1 F rfl fun a F=>vP (zG (xH (oO (kO F rfl rfl rfl X fun a F=>xA 1 F rfl fun a F=>xJ ?_))));replace d:=aB d Q;exact⟨_,Nat.lt_succ_self _,j+1,i,z2,v6,⟨e.1,e.2.2⟩,rfl,d,F.su,H⟩
 rintro a w ⟨D,t,rfl,F,H⟩
 have d:=oJ M;refine xH (xX (xA 2 F rfl fun a F=>xJ (xP (xR F rfl (xZ F rfl) ?_))));obtain rfl:=oj d;exact⟨_,rfl,t,rfl,H⟩
def zX (N:Nat) (c:List (List Int)) (i:List Int) (j:(List Int)→(List Int)→Option Int):Option (Int×Bool):=
 kY (σ:=Int×Int) (
  lD (σ:=Int×Int) (ρ:=Int×Bool) (fun(s:Int×Int)=>
    match s with
    | (d,e)=>
    if (decide (d<e)) then
     xY (ck (d+e)) fun n=>
     xY (nn n) fun h=>
     xY (ix c (h / 2)) fun p=>
     xY (j p i) fun t=>
     if (decide (t<0)) then
      xY (ck ((h / 2)+1)) fun y=>
      some (.go (y,e))
     else
      some (.go (d,(h / 2)))
    else
     some (.brk (d,e))) N (0,(c.length:Int))) fun(f,E)=>
 kY (σ:=Int×Bool) (
  if (decide (f<(c.length:Int))) then  xY (ix c f) fun A=>
   xY (j A i) fun B=>
   some (.nx (f,(B==0))) else  some (.nx (f,false))) fun(C,D)=>
 some (C,D)
theorem eX {B:Nat→Prop} {N:Nat} {j:List (List Int)} {S:List Int} {T:(List Int)→(List Int)→Option Int} (r:Int×Bool) (d:zX N j S T=some r) {C:Value} {D:Value} {h:FuncId} {y:List Value} (e:World) (hN:∀ c,B c→c<e.heap.size) (K:Bo B e (Sl 1 (vS 1 xM)) C j) (U:Bo B e (Sl 1 xM) D S) (Q:∀ args w,(callFunc h args).run Tryz.prog w= .ok (.enter h args) w) (R:∀ (V X:List Int) (r:Int),T V X=some r→∀ W,Below e.heap.size e W→∀ (Y Z:Value),Bo (All W) W (Sl 1 xM) Y V→Bo (All W) W (Sl 1 xM) Z X→Calls Tryz.prog h ([Y,Z]++y:List Value).toArray W (lI r W)):Calls Tryz.prog 183 #[C,D,.func (.func h) #[] y.toArray] e (Gv (fun v w'=>v= .tuple #[xF r.1,.bool r.2]∧Sep [] B e w' []∧xS r.1)):=by
 unfold zX at d
 refine xW (L:=[(0,C),(1,D),(2,.func (.func h) #[] y.toArray)]) func183 rfl rfl rfl (sc rfl (sc rfl (sc rfl sn))) (fun a F=>?_);have H:=Sep.start hN;refine xX (xA 2 F rfl fun a F=>zR (xA 1 F rfl fun a F=>oL xK F rfl rfl K fun a i1 F=>xA 1 F rfl fun a F=>?_));refine zR (xA 3 F rfl fun a F=>xJ (xG ?_));obtain⟨o1,d,a8⟩:=xV d;refine qG (fun a w=>∃ (i M:Int),o1= .nx (i,M)∧Sk a 49 [(0,C),(1,D),(2,.func (.func h) #[] y.toArray),(8,xF (j.length:Int)),(9,xF i)]∧Sep [] B e w []∧xS i∧xS M) ?_ ?_
 ·
  refine qM ?_;obtain⟨a9,aa,d⟩:=iO d;refine vT (fun g a w=>∃ (n p:Int),lD a9 g (n,p)=some o1∧Sk a 49 [(0,C),(1,D),(2,.func (.func h) #[] y.toArray),(8,xF (j.length:Int)),(9,xF n),(10,xF p)]∧Sep [] B e w []∧xS n∧xS p) N ?_ ?_
  ·
   exact⟨0,(j.length:Int),d,F.su,H,(show xS (0) by decide),i1⟩
  intro g1 a w ⟨n,p,d,F,H,i2,i3⟩;obtain⟨ar,t1,au,d,G⟩:=dW d;rw[aa] at d;refine xG (xX (xA 3 F rfl fun a F=>xJ (vK F rfl (fun I=>?_) (fun I=>?_))))
  ·
   replace d:=zW I d;refine xT (xH (qM (xX (xA 2 F rfl fun a F=>?_))));obtain⟨z1,O,d⟩:=xB d;refine fF F rfl rfl rfl O (fun a F=>?_);obtain⟨t,f,d⟩:=xB d
   have i4:xS t:=by rw[(pE f).2];exact(bD O)
   refine oU1 nE underlying162 F rfl rfl (bD O) f fun a F=>oU2 F rfl rfl fun a F=>oU3 underlying162 nE F rfl rfl (xPd i4 (pE (show nn t=some t by rw[(pE f).2];exact((pE f).2.symm ▸ f))).1) fun a F=>xA 1 F rfl fun a F=>zR (xA 3 F rfl fun a F=>?_);obtain⟨z3,c3,d⟩:=xB d;refine oI xK xU F rfl rfl rfl K c3 fun a p1 h1 F=>olS qE F rfl rfl H.sm h1 fun a v2 ab F=>xA 1 F rfl fun a F=>?_;obtain⟨z4,c4,d⟩:=xB d;refine xVl F rfl rfl Q rfl H (R _ _ z4 c4 _ H.bl _ _ (H.a ab) (H.a U)) fun a w H aw F=>xA 1 F rfl fun a F=>xJ (vK F rfl (fun J=>?_) (fun J=>?_))
   ·
    replace d:=zW J d;refine oO (xA 1 F rfl fun a F=>?_);obtain⟨z5,c5,d⟩:=xB d;refine fF F rfl rfl rfl c5 fun a F=>xA 1 F rfl fun a F=>vP (zG (xH ?_));replace d:=aB d G;exact⟨t1,(by omega),z5,p,d,F.su,H,(bD c5),i3⟩
   replace d:=zV J d;refine oO (xA 2 F rfl fun a F=>vP (zG (xH ?_)));replace d:=aB d G;exact⟨t1,(by omega),n,(t / 2),d,F.su,H,i2,(xPd i4 (pE (show nn t=some t by rw[(pE f).2];exact((pE f).2.symm ▸ f))).1)⟩
  replace d:=zV I d;refine vU (vV (vV ?_));replace d:=rT d G;refine bC (xH ?_);exact⟨n,p,(kQ d),F.su,H,i2,i3⟩
 rintro a w ⟨i,M,rfl,F,H,i5,i6⟩
 have d:=oJ a8;refine xH (xG ?_);obtain⟨o2,d,ac⟩:=xV d;refine qG (fun a w=>∃ (E:Int) (P:Bool),o2= .nx (E,P)∧Sk a 49 [(6,xF E),(7,.bool P)]∧Sep [] B e w []∧xS E) ?_ ?_
 ·
  refine oO (xA 5 F rfl fun a F=>?_)
  rcases zC (decide (i<(j.length:Int))) with A | A
  ·
   replace d:=zW A d;have F:=F.eb 39 rfl A;refine xA 3 F rfl fun a F=>?_;obtain⟨z6,c6,d⟩:=xB d;refine oI xK xU F rfl rfl rfl K c6 fun a p2 h2 F=>olS qE F rfl rfl H.sm h2 fun a v3 h3 F=>xA 1 F rfl fun a F=>?_;obtain⟨z7,c7,d⟩:=xB d;refine xVl F rfl rfl Q rfl H (R _ _ z7 c7 _ H.bl _ _ (H.a h3) (H.a U)) fun a w H ax F=>xA 4 F rfl fun a F=>xJ ?_;exact⟨i,(z7==0),(kQ d),F.su,H,i5⟩
  replace d:=zV A d;have F:=F.eb 39 rfl A;refine xA 11 F rfl fun a F=>?_;refine xJ ?_;exact⟨i,false,(kQ d),F.su,H,i5⟩
 rintro a w ⟨E,P,rfl,F,H,i7⟩
 have d:=oJ ac;refine xH (xP (zS F rfl (xZ F rfl) (xZ F rfl) ?_));obtain rfl:=oj d;exact⟨_,rfl,rfl,H,i7⟩
def hU (c:Int):Option Bool:=
 some ((c != c))
theorem rC {B:Nat→Prop} {d:Int} (r:Bool) (f:hU d=some r)  (e:World) (h:∀ c,B c→c<e.heap.size) (i:xS d):Calls Tryz.prog 182 #[xF d] e (bK (.bool r) e):=by
 unfold hU at f
 refine xW (L:=[(0,xF d)]) func182 rfl rfl rfl (sc rfl sn) (fun a F=>?_);have H:=Sep.start h;refine xX (xA 1 F rfl fun a F=>zR (xA 4 F rfl fun a F=>?_));refine xJ (xP (xR F rfl (xZ F rfl) ?_));obtain rfl:=oj f;exact⟨rfl,H.bl⟩
def dY (c d:Int):Option Int:=
 xY (hU c) fun f=>
 xY (hU d) fun e=>
 if f then
  if e then
   some 0
  else
   some ((-1))
 else
  if e then
   some 1
  else
   if (decide (c<d)) then
    some ((-1))
   else
    if (decide (d<c)) then
     some 1
    else
     some 0
theorem uZ {B:Nat→Prop} {e f:Int} (r:Int) (d:dY e f=some r)  (t:World) (C:∀ c,B c→c<t.heap.size) (y:xS e) (A:xS f):Calls Tryz.prog 176 #[xF e,xF f] t (lI r t):=by
 unfold dY at d
 refine xW (L:=[(0,xF e),(1,xF f)]) func176 rfl rfl rfl (sc rfl (sc rfl sn)) (fun a F=>?_);have H:=Sep.start C;refine xX (xA 1 F rfl fun a F=>zR (xA 1 F rfl fun a F=>?_));obtain⟨D,E,d⟩:=xB d;refine oK F rfl call182 rfl H (rC D E _ aA y) fun a w H F=>xA 1 F rfl fun a F=>zR (xA 1 F rfl fun a F=>?_);obtain⟨G,I,d⟩:=xB d;refine oK F rfl call182 rfl H (rC G I _ aA A) fun a w H F=>xA 1 F rfl fun a F=>xJ (xG (xX (xA 1 F rfl fun a F=>xJ (vK F rfl (fun i=>?_) (fun i=>?_)))))
 ·
  replace d:=zW i d;refine xG (xX (xA 1 F rfl fun a F=>xJ (vK F rfl (fun h=>?_) (fun h=>?_))))
  ·
   replace d:=zW h d;refine xX (xA 1 F rfl fun a F=>xJ (xP (qH (qH (xR F rfl (xZ F rfl) ?_)))));obtain rfl:=oj d;exact⟨⟨rfl,H.bl⟩,(show xS (0) by decide)⟩
  replace d:=zV h d;refine xT (xH (xX (xA 1 F rfl fun a F=>xJ (xP (qH (xR F rfl (xZ F rfl) ?_))))));obtain rfl:=oj d;exact⟨⟨rfl,H.bl⟩,(show xS (-1) by decide)⟩
 replace d:=zV i d;refine xT (xH (xG (xX (xA 1 F rfl fun a F=>xJ (vK F rfl (fun j=>?_) (fun j=>?_))))))
 ·
  replace d:=zW j d;refine xX (xA 1 F rfl fun a F=>xJ (xP (qH (xR F rfl (xZ F rfl) ?_))));obtain rfl:=oj d;exact⟨⟨rfl,H.bl⟩,(show xS (1) by decide)⟩
 replace d:=zV j d;refine xT (xH (xG (xX (xA 3 F rfl fun a F=>xJ (vK F rfl (fun n=>?_) (fun n=>?_))))))
 ·
  replace d:=zW n d;refine xX (xA 1 F rfl fun a F=>xJ (xP (qH (xR F rfl (xZ F rfl) ?_))));obtain rfl:=oj d;exact⟨⟨rfl,H.bl⟩,(show xS (-1) by decide)⟩
 replace d:=zV n d;refine xT (xH (xG (xX (xA 3 F rfl fun a F=>xJ (vK F rfl (fun p=>?_) (fun p=>?_))))))
 ·
  replace d:=zW p d;refine xX (xA 1 F rfl fun a F=>xJ (xP (qH (xR F rfl (xZ F rfl) ?_))));obtain rfl:=oj d;exact⟨⟨rfl,H.bl⟩,(show xS (1) by decide)⟩
 replace d:=zV p d;refine xT (xH (xX (xA 1 F rfl fun a F=>xJ (xP (xR F rfl (xZ F rfl) ?_)))));obtain rfl:=oj d;exact⟨⟨rfl,H.bl⟩,(show xS (0) by decide)⟩
def kS (d c:List Int):Option Int:=
 kY (σ:=Unit) (
  qW (σ:=Unit) (ρ:=Int) (fun (e:Nat) (h:Int) (s:Unit)=>
    match s with
    | _=>
    if (decide ((c.length:Int)≤(e:Int))) then
     some (.ret 1)
    else
     xY (ix c (e:Int)) fun i=>
     xY (dY h i) fun f=>
     if (f != 0) then
      some (.ret f)
     else
      some (.go ())) d 0 ()) fun _=>
 if (decide ((d.length:Int)<(c.length:Int))) then
  some ((-1))
 else
  some 0
theorem gI {B:Nat→Prop} {h I:List Int} (r:Int) (d:kS h I=some r) {j:Value} {p:Value} (i:World) (Q:∀ c,B c→c<i.heap.size) (E:Bo B i (Sl 1 xM) j h) (G:Bo B i (Sl 1 xM) p I):Calls Tryz.prog 145 #[j,p] i (lI r i):=by
 unfold kS at d
 refine xW (L:=[(0,j),(1,p)]) func145 rfl rfl rfl (sc rfl (sc rfl sn)) (fun a F=>?_);have H:=Sep.start Q;refine xX (xA 1 F rfl fun a F=>xJ (xG (xX (xA 1 F rfl fun a F=>oL xC F rfl rfl E fun a J F=>xA 1 F rfl fun a F=>?_))));refine xJ ?_;obtain⟨K,d,t⟩:=xV d;refine qG (fun a w=>K= .nx ()∧Sk a 36 [(0,j),(1,p)]∧Sep [] B i w []) ?_ ?_
 ·
  refine qM ?_;obtain⟨M,N,d⟩:=vY d;refine vT (fun g a w=>∃ (n:Nat) (f:List Int),(n≤h.length∧h.drop n=f)∧f.length=g∧qW M f n ()=some K∧Sk a 36 [(11,xF (n:Int)),(0,j),(1,p),(9,j),(10,xF (h.length:Int))]∧Sep [] B i w []) h.length ?_ ?_
  ·
   exact⟨0,h,⟨Nat.zero_le _,rfl⟩,rfl,d,F.su,H⟩
  intro g1 a w ⟨n,f,e,O,d,F,H⟩
  cases f with
  | nil=>
   replace d:=vX d;have R:=vZ e.1 e.2;have l1:=kW R;refine xX (xA 1 F rfl fun a F=>xJ (xG (aC F rfl l1 (vU (vV (vV (bC ?_)))))));refine xH ?_;exact⟨(kQ d),F.su,H⟩
  | cons x2 f=>
   subst O;replace e:=qY e.2;have S:=zI e.2.1;obtain⟨a1,d,y⟩:=vE d;rw[N] at d;have l1:=zT e.1;refine xX (xA 1 F rfl fun a F=>xJ (xG (aD F rfl l1 (xT (xH (xG ?_))))));have j1:=k64 (Nat.le_of_lt e.1) J;have T:=bG e.1 J;refine qM (xX (xA 1 F rfl fun a F=>oI xC xI F rfl rfl rfl E S fun a p1 U F=>olI xN F rfl rfl H.sm U fun a V F=>xA 2 F rfl fun a F=>xJ (xG ?_)));refine xX (xA 2 F rfl fun a F=>oL xC F rfl rfl G fun a i3 F=>xA 1 F rfl fun a F=>xJ (vK F rfl (fun A=>?_) (fun A=>?_)))
   ·
    replace d:=zW A d;refine xX (xA 1 F rfl fun a F=>xJ (xP (qH (zZ (qH (qH ?_))))));replace d:=bQ d y;refine zZ (qH ?_);replace d:=bR d t;refine qH (xR F rfl (xZ F rfl) ?_);obtain rfl:=oj d;exact⟨⟨rfl,H.bl⟩,(show xS (1) by decide)⟩
   replace d:=zV A d;refine xT (xH (xX (xA 2 F rfl fun a F=>?_)));obtain⟨z1,W,d⟩:=xB d;refine oI xC xI F rfl rfl rfl G W fun a p2 X F=>olI xN F rfl rfl H.sm X fun a Y F=>xA 1 F rfl fun a F=>zR (xA 2 F rfl fun a F=>?_);obtain⟨Z,c2,d⟩:=xB d;refine oKI F rfl call176 rfl H (uZ Z c2 _ aA V Y) fun a w H P F=>xA 1 F rfl fun a F=>zR (xA 2 F rfl fun a F=>xJ (vK F rfl (fun C=>?_) (fun C=>?_)))
   ·
    replace d:=zW C d;refine xX (xA 2 F rfl fun a F=>xJ (xP (zZ (qH (qH ?_)))));replace d:=bQ d y;refine zZ (qH ?_);replace d:=bR d t;refine qH (xR F rfl (xZ F rfl) ?_);obtain rfl:=oj d;exact⟨⟨rfl,H.bl⟩,P⟩
   replace d:=zV C d;refine xT (zG (xH (oO (kO F rfl rfl rfl T fun a F=>xA 1 F rfl fun a F=>xJ ?_))));replace d:=aB d y;exact⟨_,Nat.lt_succ_self _,n+1,f,⟨e.1,e.2.2⟩,rfl,d,F.su,H⟩
 rintro a w ⟨rfl,F,H⟩
 have d:=oJ t;refine xH (xG (xX (xA 1 F rfl fun a F=>oL xC F rfl rfl E fun a i5 F=>xA 1 F rfl fun a F=>oL xC F rfl rfl G fun a i6 F=>xA 1 F rfl fun a F=>xJ ?_)));refine vK F rfl (fun D=>?_) (fun D=>?_)
 ·
  replace d:=zW D d;refine xX (xA 1 F rfl fun a F=>xJ (xP (qH (xR F rfl (xZ F rfl) ?_))));obtain rfl:=oj d;exact⟨⟨rfl,H.bl⟩,(show xS (-1) by decide)⟩
 replace d:=zV D d;refine xT (xH (xX (xA 1 F rfl fun a F=>xJ (xP (xR F rfl (xZ F rfl) ?_)))));obtain rfl:=oj d;exact⟨⟨rfl,H.bl⟩,(show xS (0) by decide)⟩
def iZ (c d:List Int):Option Int:=
 xY (kS c d) fun e=>
 some e
theorem xAo {B:Nat→Prop} {i j:List Int} (r:Int) (e:iZ i j=some r) {f:Value} {h:Value} (d:World) (p:∀ c,B c→c<d.heap.size) (t:Bo B d (Sl 1 xM) f i) (y:Bo B d (Sl 1 xM) h j):Calls Tryz.prog 184 #[f,h] d (lI r d):=by
 unfold iZ at e
 refine xW (L:=[(0,f),(1,h)]) func184 rfl rfl rfl (sc rfl (sc rfl sn)) (fun a F=>?_);have H:=Sep.start p;refine xX (xA 1 F rfl fun a F=>zR (xA 2 F rfl fun a F=>?_));obtain⟨A,C,e⟩:=xB e;refine oKI F rfl call145 rfl H (gI A C _ aA (H.a t) (H.a y)) fun a w H n F=>xA 1 F rfl fun a F=>xJ (xP (xR F rfl (xZ F rfl) ?_));obtain rfl:=oj e;exact⟨⟨rfl,H.bl⟩,n⟩
def mB (N:Nat) (c:Rel) (d:List Int):Option Bool:=
 xY (zX N c.tuples d (fun e f=>iZ e f)) fun h=>
 some h.2
theorem xEr {B:Nat→Prop} {N:Nat} {j:Rel} {n:List Int} (r:Bool) (e:mB N j n=some r) {f:Value} {i:Value} (d:World) (t:∀ c,B c→c<d.heap.size) (y:Bo B d (aY 2 vG) f j) (A:Bo B d (Sl 1 xM) i n):Calls Tryz.prog 159 #[f,i] d (bK (.bool r) d):=by
 unfold mB at e
 refine xW (L:=[(0,f),(1,i)]) func159 rfl rfl rfl (sc rfl (sc rfl sn)) (fun a F=>?_);have H:=Sep.start t;refine xX ?_;obtain⟨I,rfl,J,C⟩:=vG.o y;refine oX F rfl rfl rfl H fun a w K H F=>xA 1 F rfl fun a F=>zR (oQ fG F rfl rfl rfl fun a F=>oB zD F rfl rfl (H.b 0 rfl) rfl fun a F=>xA 1 F rfl fun a F=>?_);obtain⟨D,p,e⟩:=xB e;refine oG F rfl call183 rfl (eX D p _ aA (H.a C) (H.a A) call184 (fun M O r h W l1 P Q f0 f1=>xAo r h W aA f0 f1)) (fun a E w ⟨G,S,R⟩ F=>?_);subst E;have H:=H.r0 S;refine xA 5 F rfl fun a F=>zR (xA 2 F rfl fun a F=>?_);refine xJ (xP (xR F rfl (xZ F rfl) ?_));obtain rfl:=oj e;exact⟨rfl,H.bl⟩
def dB (N:Nat) (e:Template) (c:Atom) (f:List Int):Option Bool:=
 xY (lK f c.args) fun d=>
 if (c.rel==(-1)) then
  xY (ix d 0) fun h=>
  xY (ix d 1) fun i=>
  some ((h==i))
 else
  xY (ix e.rels c.rel) fun j=>
  xY (mB N j d) fun n=>
  some n
theorem tH {B:Nat→Prop} {N:Nat} {n:Template} {p:Atom} {t:List Int} (r:Bool) (d:dB N n p t=some r) {h:Value} {i:Value} {j:Value} (e:World) (y:∀ c,B c→c<e.heap.size) (A:Bo B e (aY 2 xL) h n) (C:Bo B e (aY 2 kU) i p) (D:Bo B e (Sl 1 xM) j t):Calls Tryz.prog 116 #[h,i,j] e (bK (.bool r) e):=by
 unfold dB at d
 refine xW (L:=[(0,h),(1,i),(2,j)]) func116 rfl rfl rfl (sc rfl (sc rfl (sc rfl sn))) (fun a F=>?_);have H:=Sep.start y;refine xX ?_;obtain⟨v3,rfl,i1,E⟩:=xL.o A;refine oX F rfl rfl rfl H (fun a w b1 H F=>?_);obtain⟨X,rfl,i2,G⟩:=kU.o C;refine oX F rfl rfl rfl H fun a w b2 H F=>xA 1 F rfl fun a F=>zR (xA 1 F rfl fun a F=>oQ xLu F rfl rfl rfl fun a F=>oB qE F rfl rfl (H.b 0 rfl) rfl (fun a F=>?_));obtain⟨I,J,d⟩:=xB d;refine oG F rfl call158 rfl (xEw I J _ aA (H.a D) (H.a G)) (fun a K w ⟨v4,Y,S⟩ F=>?_);subst K;have H:=H.r1 S n0;refine xA 1 F rfl fun a F=>xJ (xG (xX (oQ xMh F rfl rfl rfl fun a F=>oB xN F rfl rfl (H.b 1 rfl) rfl fun a F=>xA 1 F rfl fun a F=>xJ ?_)));refine vK F rfl (fun f=>?_) (fun f=>?_)
 ·
  replace d:=zW f d;refine xG (xQa H (oM F rfl rfl (fun a F=>?_)));obtain⟨z2,M,d⟩:=xB d;refine qI xC xI F rfl rfl rfl (H.l 0 rfl) M fun a p1 O F=>qlI xN F rfl rfl qA O fun a i3 F=>oM F rfl rfl (fun a F=>?_);obtain⟨z3,P,d⟩:=xB d;refine qI xC xI F rfl rfl rfl (H.l 0 rfl) P fun a Z Q F=>qlI xN F rfl rfl qA Q fun a i4 F=>zH F rfl (fun w l=>xBe F rfl rfl) fun a F=>gS F rfl rfl fun a F=>aF fun w H=>xH (xP (qH (xR F rfl (xZ F rfl) ?_)));obtain rfl:=oj d;exact⟨rfl,H.bl⟩
 replace d:=zV f d;refine xT (xH (xX (oQ cD F rfl rfl rfl fun a F=>oB kM F rfl rfl (H.b 2 rfl) rfl fun a F=>oQ xMh F rfl rfl rfl fun a F=>oB xN F rfl rfl (H.b 1 rfl) rfl (fun a F=>?_))));obtain⟨z4,R,d⟩:=xB d;refine oI qP oE F rfl rfl rfl E R fun a p2 T F=>olA zF oE F rfl rfl H.sm T fun a v5 U F=>xA 1 F rfl fun a F=>?_;obtain⟨V,W,d⟩:=xB d;refine oK F rfl call159 rfl H (xEr V W _ aA (H.a U) (H.l 0 rfl)) fun a w H F=>xA 1 F rfl fun a F=>xJ (xP (xR F rfl (xZ F rfl) ?_));obtain rfl:=oj d;exact⟨rfl,H.bl⟩
def gO (N:Nat) (c:Atom) (d:solver) (e:(List Int)):Option Bool:=
 xY (dB N d.t (Atom.mk c.rel c.args) e) fun f=>
 some ((!f))
theorem uM {B:Nat→Prop} {N:Nat} {p:Atom} {t:solver} {y:(List Int)} (r:Bool) (e:gO N p t y=some r) {f:Value} {i:Value} {j:Value} (d:World) (A:∀ c,B c→c<d.heap.size) (C:Bo B d (aY 2 kU) f p) (D:Bo B d (Pt 1 (RP 4 aU)) i t) (E:Bo B d (Pt 1 (vS 1 xM)) j y):Calls Tryz.prog 115 #[f,i,j] d (bK (.bool r) d):=by
 unfold gO at e
 refine xW (L:=[(0,f),(1,i),(2,j)]) func115 rfl rfl rfl (sc rfl (sc rfl (sc rfl sn))) (fun a F=>?_);have H:=Sep.start A;refine xX ?_;obtain⟨Q,rfl,G,I⟩:=kU.o C;refine oX F rfl rfl rfl H fun a w R H F=>xA 1 F rfl fun a F=>xJ (xG (xQa H (qlP isAgg100 F rfl rfl H.q D fun a S n F=>qN F rfl rfl n fun a F=>qF (s':=2) xLe F rfl rfl n aU.f0 fun a T J F=>qlA qU oH F rfl rfl H.q J fun a U K F=>qBA isAgg140 eR F rfl rfl (H.qb 0 rfl) rfl rfl (fun a F=>?_))));refine qlS qE F rfl rfl H.q E (fun a V M F=>?_);obtain⟨O,P,e⟩:=xB e;refine dQ F rfl call116 rfl (fun w w' h l=>l.through h) (fun w l=>tH O P w aA ((H.go l).a K) (kU.m G ((H.go l).a I)) ((H.go l).a M)) fun a F=>gU F rfl rfl fun a F=>gS F rfl rfl fun a F=>aF fun w H=>xH (xP (xR F rfl (xZ F rfl) ?_));obtain rfl:=oj e;exact⟨rfl,H.bl⟩
def cF (c:List Atom) (d:Atom→Option Bool):Option Int:=
 kY (σ:=Unit) (
  qW (σ:=Unit) (ρ:=Int) (fun (e:Nat) (f:Atom) (s:Unit)=>
    match s with
    | _=>
    xY (d f) fun h=>
    if h then
     some (.ret ((e:Int)))
    else
     some (.go ())) c 0 ()) fun _=>
 some ((-1))
theorem mW {B:Nat→Prop} {h:List Atom} {D:Atom→Option Bool} (r:Int) (d:cF h D=some r) {t:Value} {j:FuncId} {p:List Value} (f:World) (S:∀ c,B c→c<f.heap.size) (E:Bo B f (Sl 2 kU) t h) (M:∀ args w,(callFunc j args).run Tryz.prog w= .ok (.enter j args) w) (N:∀ (G:Atom) (r:Bool),D G=some r→∀ W,Below f.heap.size f W→∀ (I:Value),Bo (All W) W (aY 2 kU) I G→Calls Tryz.prog j ([I]++p:List Value).toArray W (bK (.bool r) W)):Calls Tryz.prog 157 #[t,.func (.func j) #[] p.toArray] f (lI r f):=by
 unfold cF at d
 refine xW (L:=[(0,t),(1,.func (.func j) #[] p.toArray)]) func157 rfl rfl rfl (sc rfl (sc rfl sn)) (fun a F=>?_);have H:=Sep.start S;refine xX (xA 1 F rfl fun a F=>xJ (xG (xX (xA 1 F rfl fun a F=>oL cJ F rfl rfl E fun a J F=>xA 1 F rfl fun a F=>?_))));refine xJ ?_;obtain⟨K,d,A⟩:=xV d;refine qG (fun a w=>K= .nx ()∧Sk a 19 []∧Sep [] B f w []) ?_ ?_
 ·
  refine qM ?_;obtain⟨O,P,d⟩:=vY d;refine vT (fun g a w=>∃ (n:Nat) (i:List Atom),(n≤h.length∧h.drop n=i)∧i.length=g∧qW O i n ()=some K∧Sk a 19 [(8,xF (n:Int)),(0,t),(1,.func (.func j) #[] p.toArray),(7,xF (h.length:Int))]∧Sep [] B f w []) h.length ?_ ?_
  ·
   exact⟨0,h,⟨Nat.zero_le _,rfl⟩,rfl,d,F.su,H⟩
  intro g2 a w ⟨n,i,e,Q,d,F,H⟩
  cases i with
  | nil=>
   replace d:=vX d;have T:=vZ e.1 e.2;have l1:=kW T;refine xX (xA 1 F rfl fun a F=>xJ (xG (aC F rfl l1 (vU (vV (vV (bC ?_)))))));refine xH ?_;exact⟨(kQ d),F.sub sn,H⟩
  | cons x2 i=>
   subst Q;replace e:=qY e.2;have U:=zI e.2.1;obtain⟨a1,d,C⟩:=vE d;rw[P] at d;have l1:=zT e.1;refine xX (xA 1 F rfl fun a F=>xJ (xG (aD F rfl l1 (xT (xH (xG ?_))))));have V:=k64 (Nat.le_of_lt e.1) J;have X:=bG e.1 J;refine qM (xX (xA 2 F rfl fun a F=>zR (xA 2 F rfl fun a F=>?_)));refine xA 1 F rfl fun a F=>oI cJ eR F rfl rfl rfl E U fun a p1 R F=>olA isAgg140 eR F rfl rfl H.sm R (fun a v1 Y F=>?_);obtain⟨Z,c1,d⟩:=xB d;refine oKV F rfl rfl M rfl H (N _ Z c1 _ H.bl _ (H.a Y)) fun a w H F=>xJ (vK F rfl (fun y=>?_) (fun y=>?_))
   ·
    replace d:=zW y d;refine xX (xA 2 F rfl fun a F=>xJ (xP (zZ (qH (qH ?_)))));replace d:=bQ d C;refine zZ (qH ?_);replace d:=bR d A;refine qH (xR F rfl (xZ F rfl) ?_);obtain rfl:=oj d;exact⟨⟨rfl,H.bl⟩,V⟩
   replace d:=zV y d;refine xT (zG (xH (oO (kO F rfl rfl rfl X fun a F=>xA 1 F rfl fun a F=>xJ ?_))));replace d:=aB d C;exact⟨_,Nat.lt_succ_self _,n+1,i,⟨e.1,e.2.2⟩,rfl,d,F.su,H⟩
 rintro a w ⟨rfl,F,H⟩
 have d:=oJ A;refine xH (xX (xA 1 F rfl fun a F=>xJ (xP (xR F rfl (xZ F rfl) ?_))));obtain rfl:=oj d;exact⟨⟨rfl,H.bl⟩,(show xS (-1) by decide)⟩
def aH (c:List Atom) (d:Atom→Option Bool):Option Bool:=
 xY (cF c d) fun e=>
 some ((decide (0≤e)))
theorem lS {B:Nat→Prop} {p:List Atom} {t:Atom→Option Bool} (r:Bool) (f:aH p t=some r) {n:Value} {e:FuncId} {j:List Value} (d:World) (D:∀ c,B c→c<d.heap.size) (E:Bo B d (Sl 2 kU) n p) (A:∀ args w,(callFunc e args).run Tryz.prog w= .ok (.enter e args) w) (C:∀ (i:Atom) (r:Bool),t i=some r→∀ W,Below d.heap.size d W→∀ (y:Value),Bo (All W) W (aY 2 kU) y i→Calls Tryz.prog e ([y]++j:List Value).toArray W (bK (.bool r) W)):Calls Tryz.prog 114 #[n,.func (.func e) #[] j.toArray] d (bK (.bool r) d):=by
 unfold aH at f
 refine xW (L:=[(0,n),(1,.func (.func e) #[] j.toArray)]) func114 rfl rfl rfl (sc rfl (sc rfl sn)) (fun a F=>?_);have H:=Sep.start D;refine xX (xA 1 F rfl fun a F=>zR (xA 2 F rfl fun a F=>?_));obtain⟨G,I,f⟩:=xB f;refine oKI F rfl call157 rfl H (mW G I _ aA (H.a E) A (fun i r h W l1=>C i r h W (H.bl.trans (l1.mono H.fr.size)))) fun a w H J F=>xA 2 F rfl fun a F=>xJ (xP (xR F rfl (xZ F rfl) ?_));obtain rfl:=oj f;exact⟨rfl,H.bl⟩
def dK (N:Nat) (c:solver) (d:List Int):Option Bool:=
 xY (ck ((d.length:Int) - 1)) fun e=>
 xY (ix c.due e) fun f=>
 xY (aH f (fun h=>gO N h c d)) fun i=>
 some ((!i))
theorem pN {B:Nat→Prop} {N:Nat} {p:solver} {t:List Int} (r:Bool) (d:dK N p t=some r) {i:Value} {j:Value} (e:World) (A:∀ c,B c→c<e.heap.size) (f:Bo B e (Pt 4 aU) i p) (n:Bo B e (Sl 1 xM) j t):Calls Tryz.prog 79 #[i,j] e (bK (.bool r) e):=by
 unfold dK at d
 refine xW (L:=[(0,i),(1,j)]) func79 rfl rfl rfl (sc rfl (sc rfl sn)) (fun a F=>?_);have H:=Sep.start A;refine xX (oX F rfl rfl (jM (H.a f).pone) H fun a w M H F=>oX F rfl rfl (jM (H.a n).one) H fun a w O H F=>xA 1 F rfl fun a F=>xJ (xG (xQa H (qB isAgg100 F rfl rfl (H.qb 1 rfl) rfl fun a F=>qN F rfl rfl f (fun a F=>?_)))));refine qF (s':=1) xHc F rfl rfl f aU.f2 fun a P C F=>qlS isAgg176 F rfl rfl H.q C fun a Q y F=>qB qE F rfl rfl (H.qb 0 rfl) rfl fun a F=>qL xC F rfl rfl n (fun a R F=>?_);obtain⟨S,D,d⟩:=xB d;refine zH F rfl (fun w l=>nU F rfl rfl D) (fun a F=>?_);obtain⟨T,E,d⟩:=xB d;refine qI lA rG F rfl rfl rfl y E fun a U G F=>qlS isAgg138 F rfl rfl H.q G fun a V I F=>zH F rfl (fun w l=>xQs F rfl rfl) (fun a F=>?_);obtain⟨J,K,d⟩:=xB d;refine dQ F rfl call114 rfl (fun w w' h l=>l.through h) (fun w l=>lS J K w aA ((H.go l).a I) call115 (fun X r h W l1 Y f0=>uM r h W aA f0 ((c1P ((H.go l).g 1 rfl).bk ((H.go l).a f)).w l1) ((c1S ((H.go l).g 0 rfl).bk ((H.go l).a n)).w l1))) fun a F=>gU F rfl rfl fun a F=>gS F rfl rfl fun a F=>aF fun w H=>xH (xP (xR F rfl (xZ F rfl) ?_));obtain rfl:=oj d;exact⟨rfl,H.bl⟩
def bX (c:List Int):Option (List Int):=
 some c
theorem pG {B:Nat→Prop} {i:List Int} (r:(List Int)) (j:bX i=some r) {e:Value} (d:World) (n:∀ c,B c→c<d.heap.size) (f:Bo B d (Sl 1 xM) e i):Calls Tryz.prog 117 #[e] d (Gv (fun v w'=>∃ (h:Option Addr),v=(.slice h r.length r.length)∧Sep [] B d w' []∧Bo B d (Sl 1 xM) (.slice h r.length r.length) r)):=by
 unfold bX at j
 refine xW (L:=[(0,e)]) func117 rfl rfl rfl (sc rfl sn) (fun a F=>?_);have H:=Sep.start n;refine xX (xA 1 F rfl fun a F=>zR (xA 2 F rfl fun a F=>oL xC F rfl rfl f fun a y F=>xA 1 F rfl fun a F=>?_));refine oL xC F rfl rfl f fun a A F=>oCl xC xI F rfl rfl rfl rfl f fun a p t F=>xA 1 F rfl fun a F=>xJ (xP (xR F rfl (xZ F rfl) ?_));obtain rfl:=oj j;exact⟨_,rfl,p,rfl,H,t⟩
def aZ (c:List Int):Option Int:=
 kY (σ:=Unit) (
  if (decide ((c.length:Int)<1)) then
   none
  else
   some (.nx ())) fun _=>
 xY (ix c 0) fun f=>
 kY (σ:=Int) (
  eJ (σ:=Int) (ρ:=Int) (fun (h:Nat) (d:Int)=>
   xY (ix c (1+(h:Int))) fun e=>
   some (.go (if d<e then e else d))) ((c.length:Int) - 1).toNat 0 f) fun i=>
 some i
theorem pU {B:Nat→Prop} {p:List Int} (r:Int) (d:aZ p=some r) {h:Value} (e:World) (O:∀ c,B c→c<e.heap.size) (i:Bo B e (Sl 1 xM) h p):Calls Tryz.prog 113 #[h] e (lI r e):=by
 unfold aZ at d
 refine xW (L:=[(0,h)]) func113 rfl rfl rfl (sc rfl sn) (fun a F=>?_);have H:=Sep.start O;refine xX (xA 1 F rfl fun a F=>xJ (xG (xX (xA 1 F rfl fun a F=>oL xC F rfl rfl i fun a i1 F=>xA 1 F rfl fun a F=>?_))));refine xJ ?_;obtain⟨P,d,J⟩:=xV d;refine qG (fun a w=>P= .nx ()∧Sk a 25 [(0,h)]∧Sep [] B e w []) ?_ ?_
 ·
  refine vK F rfl (fun y=>?_) (fun y=>?_)
  ·
   replace d:=zW y d
   cases d
  replace d:=zV y d;refine xT (xH ?_);exact⟨(kQ d),F.su,H⟩
 rintro a w ⟨rfl,F,H⟩
 have d:=oJ J;refine xH (xX (xA 1 F rfl fun a F=>?_));obtain⟨Q,R,d⟩:=xB d;refine oI xC xI F rfl rfl rfl i R fun a p1 S F=>olI xN F rfl rfl H.sm S fun a T F=>xA 1 F rfl fun a F=>xJ (xG (xX (xA 1 F rfl fun a F=>xJ ?_)));obtain⟨A,d,I⟩:=xV d;refine qG (fun a w=>∃ (t:Int),A= .nx t∧Sk a 25 [(3,xF t)]∧Sep [] B e w []∧xS t) ?_ ?_
 ·
  refine qM ?_;obtain⟨K,M,d⟩:=gW d;refine vT (fun g a w=>∃ (j:Nat) (f:Int),j+g=((p.length:Int) - 1).toNat∧eJ K g j f=some A∧Sk a 25 [(4,xF (1+(j:Int))),(0,h),(3,xF f)]∧Sep [] B e w []∧xS f) ((p.length:Int) - 1).toNat ?_ ?_
  ·
   exact⟨0,Q,(Nat.zero_add _),d,F.su,H,T⟩
  intro C a w ⟨j,f,n,d,F,H,D⟩
  cases C with
  | zero=>
   replace d:=fJ d;have l1:=xPu n;refine xG (xX (xA 2 F rfl fun a F=>oL xC F rfl rfl i fun a i4 F=>xA 1 F rfl fun a F=>xJ (aC F rfl l1 (vU ?_))));refine vV (vV (bC (xH ?_)));exact⟨f,(kQ d),F.su,H,D⟩
  | succ C=>
   obtain⟨Z,d,N⟩:=fI d;rw[M] at d;have l1:=xOa n;refine xG (xX (xA 2 F rfl fun a F=>oL xC F rfl rfl i fun a E F=>xA 1 F rfl fun a F=>xJ (aD F rfl l1 (xT ?_))));refine xH (xG ?_);have j1:=k64O n (show xS (1) by decide) E;have U:=xUy n (show xS (1) by decide) E;refine qM (oO (xA 3 F rfl fun a F=>?_));obtain⟨G,V,d⟩:=xB d;refine oI xC xI F rfl rfl rfl i V fun a p2 W F=>olI xN F rfl rfl H.sm W fun a X F=>xMp F rfl rfl rfl fun a F=>xA 1 F rfl fun a F=>vP (zG (xH (oO (xA 1 F rfl fun a F=>xUc F rfl rfl rfl U fun a F=>xA 1 F rfl fun a F=>?_))));refine xJ ?_;replace d:=aB d N;exact⟨_,Nat.lt_succ_self _,j+1,(if f<G then G else f),(by omega),d,F.su,H,(xLt D X)⟩
 rintro a w ⟨t,rfl,F,H,Y⟩
 have d:=oJ I;refine xH (xX (xA 2 F rfl fun a F=>xJ (xP (xR F rfl (xZ F rfl) ?_))));obtain rfl:=oj d;exact⟨⟨rfl,H.bl⟩,Y⟩
def zE (c:List Int):Option (List Int):=
 xY (ap ([]) c) fun d=>
 some d
theorem cE {B:Nat→Prop} {j:List Int} (r:(List Int)) (d:zE j=some r) {f:Value} (e:World) (t:∀ c,B c→c<e.heap.size) (n:Bo B e (Sl 1 xM) f j):Calls Tryz.prog 66 #[f] e (Gv (fun v w'=>∃ (h:Value),v=h∧Sep [] B e w' [rl 1 xM 2 h r])):=by
 unfold zE at d
 refine xW (L:=[(0,f)]) func66 rfl rfl rfl (sc rfl sn) (fun a F=>?_);have H:=Sep.start t;refine xX (xA 1 F rfl fun a F=>xJ (xG (xX (xA 1 F rfl fun a F=>oEn xC F rfl rfl rfl (H.a n) fun a C p F=>vP ?_))));refine xH (vK F rfl (fun i=>?_) (fun i=>?_))
 ·
  replace d:some ([])=some r:=by rw[p i] at d;exact d
  refine xX (xA 1 F rfl fun a F=>xJ (xP (qH (xR F rfl (xZ F rfl) ?_))));obtain rfl:=oj d;exact⟨_,rfl,vH,rfl,(H.nl 1 xM 2)⟩
 refine xT (xH (xX (oR0 (R:=xM) xC xI F rfl H fun a w D H F=>xA 1 F rfl fun a F=>?_)));obtain⟨E,y,d⟩:=xB d;refine oPf (sz:=1) (R:=xM) (z:=(xF 0)) (bytes:=8) xC (by kernel_rfl) rfl rfl F rfl rfl rfl H.lw (H.lw.a n) y (fun a w A H F=>?_);have H:=H.tl;refine xA 1 F rfl fun a F=>xJ (xP (xR F rfl (xZ F rfl) ?_));obtain rfl:=oj d;exact⟨_,rfl,A,rfl,H⟩
end Go.Proofs.YtfmnjkpddljdcaaGreatDoor
namespace Go.Proofs.YtfmnjkpddljdcaaGreatDoor
open Go.Proofs.Tryz
end Go.Proofs.YtfmnjkpddljdcaaGreatDoor
