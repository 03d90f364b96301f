import Derived.Test.YtfmnjkpddljdcaaGreatDoorSO
import Derived.Test.YtfmnjkpddljdcaaGreatDoorNM
import Derived.Test.YtfmnjkpddljdcaaGreatDoorNO
import Derived.Test.YtfmnjkpddljdcaaGreatDoorDS
namespace Go.Proofs.YtfmnjkpddljdcaaGreatDoor
open Go.Proofs.Tryz
set_option maxHeartbeats 1000000
set_option linter.unusedVariables false
set_option linter.unusedSimpArgs false
set_option maxRecDepth 100000
open Go.RowKit
def bA (c d e:Int):Option Bool:=
 kY (σ:=Bool) (
  if (decide (d≤c)) then  some (.nx (decide (c≤e))) else  some (.nx false)) fun f=>
 some f
theorem dN {B:Nat→Prop} {e h i:Int} (r:Bool) (d:bA e h i=some r)  (j:World) (t:∀ c,B c→c<j.heap.size) (A:xS e) (C:xS h) (D:xS i):Calls Tryz.prog 52 #[xF e,xF h,xF i] j (bK (.bool r) j):=by
 unfold bA at d
 refine xW (L:=[(0,xF e),(1,xF h),(2,xF i)]) func52 rfl rfl rfl (sc rfl (sc rfl (sc rfl sn))) (fun a F=>?_);have H:=Sep.start t;refine xX (xA 1 F rfl fun a F=>xJ (xG ?_));obtain⟨y,d,p⟩:=xV d;refine qG (fun a w=>∃ (n:Bool),y= .nx n∧Sk a 15 [(6,.bool n)]∧Sep [] B j w []) ?_ ?_
 ·
  refine oO (xA 4 F rfl fun a F=>?_)
  rcases zC (decide (h≤e)) with f | f
  ·
   replace d:=zW f d;have F:=F.eb 10 rfl f;refine xA 5 F rfl fun a F=>xJ ?_;exact⟨(decide (e≤i)),(kQ d),F.su,H⟩
  replace d:=zV f d;have F:=F.eb 10 rfl f;refine xA 5 F rfl fun a F=>xJ ?_;exact⟨false,(kQ d),F.su,H⟩
 rintro a w ⟨n,rfl,F,H⟩
 have d:=oJ p;refine xH (xP (xR F rfl (xZ F rfl) ?_));obtain rfl:=oj d;exact⟨rfl,H.bl⟩
def lH (c:Int):Option Bool:=
 xY (bA c 1 4) fun d=>
 some d
theorem wK {B:Nat→Prop} {d:Int} (r:Bool) (e:lH d=some r)  (f:World) (i:∀ c,B c→c<f.heap.size) (h:xS d):Calls Tryz.prog 106 #[xF d] f (bK (.bool r) f):=by
 unfold lH at e
 refine xW (L:=[(0,xF d)]) func106 rfl rfl rfl (sc rfl sn) (fun a F=>?_);have H:=Sep.start i;refine xX (xA 1 F rfl fun a F=>zR (xA 1 F rfl fun a F=>?_));obtain⟨j,n,e⟩:=xB e;refine oK F rfl mC rfl H (dN j n _ aA h (show xS (1) by decide) (show xS (4) by decide)) fun a w H F=>xA 1 F rfl fun a F=>xJ (xP (xR F rfl (xZ F rfl) ?_));obtain rfl:=oj e;exact⟨rfl,H.bl⟩
def mD (c:Int):Option Bool:=
 xY (bA c 1 4) fun d=>
 some d
theorem xDf {B:Nat→Prop} {d:Int} (r:Bool) (e:mD d=some r)  (f:World) (i:∀ c,B c→c<f.heap.size) (h:xS d):Calls Tryz.prog 144 #[xF d] f (bK (.bool r) f):=by
 unfold mD at e
 refine xW (L:=[(0,xF d)]) func144 rfl rfl rfl (sc rfl sn) (fun a F=>?_);have H:=Sep.start i;refine xX (xA 1 F rfl fun a F=>zR (xA 1 F rfl fun a F=>?_));obtain⟨j,n,e⟩:=xB e;refine oK F rfl mC rfl H (dN j n _ aA h (show xS (1) by decide) (show xS (4) by decide)) fun a w H F=>xA 1 F rfl fun a F=>xJ (xP (xR F rfl (xZ F rfl) ?_));obtain rfl:=oj e;exact⟨rfl,H.bl⟩
def fP (c d:Int):Option Bool:=
 xY (ck (c - 1)) fun e=>
 xY (bA d 0 e) fun f=>
 some f
theorem xDg {B:Nat→Prop} {e f:Int} (r:Bool) (d:fP e f=some r)  (h:World) (n:∀ c,B c→c<h.heap.size) (y:xS e) (j:xS f):Calls Tryz.prog 75 #[xF e,xF f] h (bK (.bool r) h):=by
 unfold fP at d
 refine xW (L:=[(0,xF e),(1,xF f)]) func75 rfl rfl rfl (sc rfl (sc rfl sn)) (fun a F=>?_);have H:=Sep.start n;refine xX (xA 1 F rfl fun a F=>zR (xA 2 F rfl fun a F=>?_));obtain⟨A,i,d⟩:=xB d;refine gY F rfl rfl rfl i (fun a F=>?_);obtain⟨p,t,d⟩:=xB d;refine oK F rfl mC rfl H (dN p t _ aA j (show xS (0) by decide) (bD i)) fun a w H F=>xA 1 F rfl fun a F=>xJ (xP (xR F rfl (xZ F rfl) ?_));obtain rfl:=oj d;exact⟨rfl,H.bl⟩
def dH (c d:Int):Option Bool:=
 xY (fP d c) fun e=>
 some ((!e))
theorem yC {B:Nat→Prop} {d i:Int} (r:Bool) (e:dH d i=some r) {h:Value} (f:World) (n:∀ c,B c→c<f.heap.size) (j:xS d) (p:Bo B f (Pt 1 xM) h i):Calls Tryz.prog 74 #[xF d,h] f (bK (.bool r) f):=by
 unfold dH at e
 refine xW (L:=[(0,xF d),(1,h)]) func74 rfl rfl rfl (sc rfl (sc rfl sn)) (fun a F=>?_);have H:=Sep.start n;refine xX (xA 1 F rfl fun a F=>zR (olI xN F rfl rfl H.sm p fun a t F=>xA 1 F rfl fun a F=>?_));obtain⟨y,A,e⟩:=xB e;refine oK F rfl call75 rfl H (xDg y A _ aA t j) fun a w H F=>xA 2 F rfl fun a F=>xJ (xP (xR F rfl (xZ F rfl) ?_));obtain rfl:=oj e;exact⟨rfl,H.bl⟩
def zK (c:List Int) (d:Int→Option Bool):Option Int:=
 kY (σ:=Unit) (
  qW (σ:=Unit) (ρ:=Int) (fun (e:Nat) (f:Int) (s:Unit)=>
    match s with
    | _=>
    xY (d f) fun h=>
    if h then
     some (.ret ((e:Int)))
    else
     some (.go ())) c 0 ()) fun _=>
 some ((-1))
theorem fR {B:Nat→Prop} {h:List Int} {E:Int→Option Bool} (r:Int) (d:zK h E=some r) {t:Value} {j:FuncId} {p:List Value} (f:World) (R:∀ c,B c→c<f.heap.size) (G:Bo B f (Sl 1 xM) t h) (K:∀ args w,(callFunc j args).run Tryz.prog w= .ok (.enter j args) w) (M:∀ (A:Int) (r:Bool),E A=some r→∀ W,Below f.heap.size f W→xS A→Calls Tryz.prog j ([xF A]++p:List Value).toArray W (bK (.bool r) W)):Calls Tryz.prog 86 #[t,.func (.func j) #[] p.toArray] f (lI r f):=by
 unfold zK at d
 refine xW (L:=[(0,t),(1,.func (.func j) #[] p.toArray)]) func86 rfl rfl rfl (sc rfl (sc rfl sn)) (fun a F=>?_);have H:=Sep.start R;refine xX (xA 1 F rfl fun a F=>xJ (xG (xX (xA 1 F rfl fun a F=>oL xC F rfl rfl G fun a I F=>xA 1 F rfl fun a F=>?_))));refine xJ ?_;obtain⟨J,d,C⟩:=xV d;refine qG (fun a w=>J= .nx ()∧Sk a 19 []∧Sep [] B f w []) ?_ ?_
 ·
  refine qM ?_;obtain⟨N,O,d⟩:=vY d;refine vT (fun g a w=>∃ (n:Nat) (i:List Int),(n≤h.length∧h.drop n=i)∧i.length=g∧qW N i n ()=some J∧Sk a 19 [(8,xF (n:Int)),(0,t),(1,.func (.func j) #[] p.toArray),(7,xF (h.length:Int))]∧Sep [] B f w []) h.length ?_ ?_
  ·
   exact⟨0,h,⟨Nat.zero_le _,rfl⟩,rfl,d,F.su,H⟩
  intro g2 a w ⟨n,i,e,P,d,F,H⟩
  cases i with
  | nil=>
   replace d:=vX d;have S:=vZ e.1 e.2;have l1:=kW S;refine xX (xA 1 F rfl fun a F=>xJ (xG (aC F rfl l1 (vU (vV (vV (bC ?_)))))));refine xH ?_;exact⟨(kQ d),F.sub sn,H⟩
  | cons x2 i=>
   subst P;replace e:=qY e.2;have T:=zI e.2.1;obtain⟨a0,d,D⟩:=vE d;rw[O] at d;have l1:=zT e.1;refine xX (xA 1 F rfl fun a F=>xJ (xG (aD F rfl l1 (xT (xH (xG ?_))))));have U:=k64 (Nat.le_of_lt e.1) I;have V:=bG e.1 I;refine qM (xX (xA 2 F rfl fun a F=>zR (xA 2 F rfl fun a F=>?_)));refine xA 1 F rfl fun a F=>oI xC xI F rfl rfl rfl G T fun a p1 X F=>olI xN F rfl rfl H.sm X (fun a Q F=>?_);obtain⟨Y,Z,d⟩:=xB d;refine oKV F rfl rfl K rfl H (M _ Y Z _ H.bl Q) fun a w H F=>xJ (vK F rfl (fun y=>?_) (fun y=>?_))
   ·
    replace d:=zW y d;refine xX (xA 2 F rfl fun a F=>xJ (xP (zZ (qH (qH ?_)))));replace d:=bQ d D;refine zZ (qH ?_);replace d:=bR d C;refine qH (xR F rfl (xZ F rfl) ?_);obtain rfl:=oj d;exact⟨⟨rfl,H.bl⟩,U⟩
   replace d:=zV y d;refine xT (zG (xH (oO (kO F rfl rfl rfl V fun a F=>xA 1 F rfl fun a F=>xJ ?_))));replace d:=aB d D;exact⟨_,Nat.lt_succ_self _,n+1,i,⟨e.1,e.2.2⟩,rfl,d,F.su,H⟩
 rintro a w ⟨rfl,F,H⟩
 have d:=oJ C;refine xH (xX (xA 1 F rfl fun a F=>xJ (xP (xR F rfl (xZ F rfl) ?_))));obtain rfl:=oj d;exact⟨⟨rfl,H.bl⟩,(show xS (-1) by decide)⟩
def vQ (c:List Int) (d:Int→Option Bool):Option Bool:=
 xY (zK c d) fun e=>
 some ((decide (0≤e)))
theorem eU {B:Nat→Prop} {p:List Int} {t:Int→Option Bool} (r:Bool) (i:vQ p t=some r) {n:Value} {e:FuncId} {j:List Value} (d:World) (C:∀ c,B c→c<d.heap.size) (D:Bo B d (Sl 1 xM) n p) (y:∀ args w,(callFunc e args).run Tryz.prog w= .ok (.enter e args) w) (A:∀ (f:Int) (r:Bool),t f=some r→∀ W,Below d.heap.size d W→xS f→Calls Tryz.prog e ([xF f]++j:List Value).toArray W (bK (.bool r) W)):Calls Tryz.prog 53 #[n,.func (.func e) #[] j.toArray] d (bK (.bool r) d):=by
 unfold vQ at i
 refine xW (L:=[(0,n),(1,.func (.func e) #[] j.toArray)]) func53 rfl rfl rfl (sc rfl (sc rfl sn)) (fun a F=>?_);have H:=Sep.start C;refine xX (xA 1 F rfl fun a F=>zR (xA 2 F rfl fun a F=>?_));obtain⟨E,G,i⟩:=xB i;refine oKI F rfl call86 rfl H (fR E G _ aA (H.a D) y (fun f r h W l1=>A f r h W (H.bl.trans (l1.mono H.fr.size)))) fun a w H I F=>xA 2 F rfl fun a F=>xJ (xP (xR F rfl (xZ F rfl) ?_));obtain rfl:=oj i;exact⟨rfl,H.bl⟩
def aK (d:Int) (c:List Int) (e:Int):Option Bool:=
 kY (σ:=Bool) (
  if ((c.length:Int)==e) then  xY (vQ c (fun f=>dH f d)) fun h=>
   some (.nx (!h)) else  some (.nx false)) fun i=>
 some i
theorem jN {B:Nat→Prop} {j:Int} {n:List Int} {f:Int} (r:Bool) (d:aK j n f=some r) {p:Value} (i:World) (G:∀ c,B c→c<i.heap.size) (C:xS j) (y:Bo B i (Sl 1 xM) p n) (J:xS f):Calls Tryz.prog 37 #[xF j,p,xF f] i (bK (.bool r) i):=by
 unfold aK at d
 refine xW (L:=[(0,xF j),(1,p),(2,xF f)]) func37 rfl rfl rfl (sc rfl (sc rfl (sc rfl sn))) (fun a F=>?_);have H:=Sep.start G;refine xX (oX F rfl rfl rfl H fun a w K H F=>xA 1 F rfl fun a F=>xJ (xG ?_));obtain⟨D,d,E⟩:=xV d;refine qG (fun a w=>∃ (t:Bool),D= .nx t∧Sk a 17 [(6,.bool t)]∧Sep [] B i w []) ?_ ?_
 ·
  refine oO (xA 1 F rfl fun a F=>oL xC F rfl rfl y fun a M F=>xA 3 F rfl fun a F=>?_)
  rcases zC ((n.length:Int)==f) with e | e
  ·
   replace d:=zW e d;have F:=F.eb 11 rfl e;refine xA 1 F rfl fun a F=>wZ F rfl rfl rfl (fun a F=>?_);obtain⟨A,I,d⟩:=xB d;refine oK F rfl call53 rfl H (eU A I _ aA (H.a y) call74 (fun N r h W l1 f0=>yC r h W aA f0 ((c1I (H.g 0 rfl).bk C).w l1))) fun a w H F=>xA 3 F rfl fun a F=>xJ ?_;exact⟨(!A),(kQ d),F.su,(H.s [] rfl rfl)⟩
  replace d:=zV e d;have F:=F.eb 11 rfl e;refine xA 6 F rfl fun a F=>xJ ?_;exact⟨false,(kQ d),F.su,(H.s [] rfl rfl)⟩
 rintro a w ⟨t,rfl,F,H⟩
 have d:=oJ E;refine xH (xP (xR F rfl (xZ F rfl) ?_));obtain rfl:=oj d;exact⟨rfl,H.bl⟩
def eM (d:Int) (c:Rel):Option Bool:=
 kY (σ:=Bool) (
  xY (lH d) fun h=>
  if (!h) then  some (.nx true) else  xY (mD c.arity) fun i=>
   some (.nx (!i))) fun j=>
 if j then
  some false
 else
  kY (σ:=Unit) (
   qW (σ:=Unit) (ρ:=Bool) (fun (e:Nat) (f:(List Int)) (s:Unit)=>
     match s with
     | _=>
     kY (σ:=Bool) (
      xY (aK d f c.arity) fun n=>
      if (!n) then  some (.nx true) else  if (decide (0<(e:Int))) then  xY (ck ((e:Int) - 1)) fun p=>
        xY (ix c.tuples p) fun t=>
        xY (kS t f) fun y=>
        some (.nx (decide (0≤y))) else  some (.nx false)) fun A=>
     if A then
      some (.ret false)
     else
      some (.go ())) c.tuples 0 ()) fun _=>
  some true
theorem xBr {B:Nat→Prop} {j:Int} {e:Rel} (r:Bool) (d:eM j e=some r) {G:Value} (h:World) (hN:∀ c,B c→c<h.heap.size) (M:xS j) (A1:Bo B h (aY 2 vG) G e):Calls Tryz.prog 109 #[xF j,G] h (bK (.bool r) h):=by
 unfold eM at d
 refine xW (L:=[(0,xF j),(1,G)]) func109 rfl rfl rfl (sc rfl (sc rfl sn)) (fun a F=>?_);have H:=Sep.start hN;refine xX ?_;obtain⟨C,rfl,P,I⟩:=vG.o A1;refine oX F rfl rfl rfl H fun a w p H F=>xA 1 F rfl fun a F=>xJ (xG (xG ?_));obtain⟨o1,d,X⟩:=xV d;refine qG (fun a w=>∃ (J:Bool),o1= .nx J∧Sk a 46 [(0,xF j),(3,vA p),(15,.bool J)]∧Sep [] B h w [bx p [xF e.arity,C] 65]) ?_ ?_
 ·
  refine oO (xA 1 F rfl fun a F=>?_);obtain⟨Q,c1,d⟩:=xB d;refine oK F rfl call106 rfl H (wK Q c1 _ aA M) fun a w H F=>xA 2 F rfl fun a F=>?_
  rcases zC (!Q) with t | t
  ·
   replace d:=zW t d;have F:=F.eb 10 rfl t;refine xA 5 F rfl fun a F=>xJ ?_;exact⟨true,(kQ d),F.su,H⟩
  replace d:=zV t d;have F:=F.eb 10 rfl t;refine oQ sS F rfl rfl rfl fun a F=>oB xN F rfl rfl (H.b 0 rfl) rfl (fun a F=>?_);obtain⟨R,c2,d⟩:=xB d;refine oK F rfl call144 rfl H (xDf R c2 _ aA P) fun a w H F=>xA 2 F rfl fun a F=>xJ ?_;exact⟨(!R),(kQ d),F.su,H⟩
 rintro a w ⟨J,rfl,F,H⟩
 have d:=oJ X;refine xH (vK F rfl (fun D=>?_) (fun D=>?_))
 ·
  replace d:=zW D d;refine xX (xA 1 F rfl fun a F=>xJ (xP (qH (xR F rfl (xZ F rfl) ?_))));obtain rfl:=oj d;exact⟨rfl,H.bl⟩
 replace d:=zV D d;refine xT (xH (xG (xX (oQ fG F rfl rfl rfl fun a F=>oB zD F rfl rfl (H.b 0 rfl) rfl fun a F=>oL xK F rfl rfl I fun a S F=>xA 1 F rfl fun a F=>xJ ?_))));obtain⟨T,d,N⟩:=xV d;refine qG (fun a w=>T= .nx ()∧Sk a 46 []∧Sep [] B h w []) ?_ ?_
 ·
  refine qM ?_;obtain⟨Y,Z,d⟩:=vY d;refine vT (fun g a w=>∃ (i:Nat) (n:List (List Int)),(i≤e.tuples.length∧e.tuples.drop i=n)∧n.length=g∧qW Y n i ()=some T∧Sk a 46 [(19,xF (i:Int)),(0,xF j),(3,vA p),(17,C),(18,xF (e.tuples.length:Int))]∧Sep [] B h w [bx p [xF e.arity,C] 65]) e.tuples.length ?_ ?_
  ·
   exact⟨0,e.tuples,⟨Nat.zero_le _,rfl⟩,rfl,d,F.su,H⟩
  intro g1 a w ⟨i,n,f,a0,d,F,H⟩
  cases n with
  | nil=>
   replace d:=vX d;have q1:=vZ f.1 f.2;have l1:=kW q1;refine xX (xA 1 F rfl fun a F=>xJ (xG (aC F rfl l1 (vU (vV (vV (bC ?_)))))));refine xH ?_;exact⟨(kQ d),F.sub sn,(H.s [] rfl rfl)⟩
  | cons x2 n=>
   subst a0;replace f:=qY f.2;have y1:=zI f.2.1;obtain⟨ai,d,O⟩:=vE d;rw[Z] at d;have l1:=zT f.1;refine xX (xA 1 F rfl fun a F=>xJ (xG (aD F rfl l1 (xT (xH (xG ?_))))));have j1:=k64 (Nat.le_of_lt f.1) S;have m1:=bG f.1 S;refine qM (xX (xA 1 F rfl fun a F=>oI xK xU F rfl rfl rfl I y1 fun a p1 h2 F=>olS qE F rfl rfl H.sm h2 fun a v3 U F=>xA 2 F rfl fun a F=>xJ (xG ?_)));obtain⟨o3,d,a1⟩:=xV d;refine qG (fun a w=>∃ (K:Bool),o3= .nx K∧Sk a 46 [(0,xF j),(3,vA p),(17,C),(18,xF (e.tuples.length:Int)),(19,xF (i:Int)),(44,.bool K)]∧Sep [] B h w [bx p [xF e.arity,C] 65]) ?_ ?_
   ·
    refine oO (xA 2 F rfl fun a F=>oQ sS F rfl rfl rfl fun a F=>oB xN F rfl rfl (H.b 0 rfl) rfl (fun a F=>?_));obtain⟨V,c3,d⟩:=xB d;refine oK F rfl call37 rfl H (jN V c3 _ aA M (H.a U) P) fun a w H F=>xA 2 F rfl fun a F=>?_
    rcases zC (!V) with y | y
    ·
     replace d:=zW y d;have F:=F.eb 30 rfl y;refine xA 11 F rfl fun a F=>?_;refine xA 3 F rfl fun a F=>xJ ?_;exact⟨true,(kQ d),F.su,H⟩
    replace d:=zV y d;have F:=F.eb 30 rfl y;refine xA 3 F rfl fun a F=>?_
    rcases zC (decide (0<(i:Int))) with A | A
    ·
     replace d:=zW A d;have F:=F.eb 33 rfl A;refine oQ fG F rfl rfl rfl fun a F=>oB zD F rfl rfl (H.b 0 rfl) rfl fun a F=>xA 1 F rfl fun a F=>?_;obtain⟨z4,c4,d⟩:=xB d;refine gY F rfl rfl rfl c4 (fun a F=>?_);obtain⟨z5,c5,d⟩:=xB d;refine oI xK xU F rfl rfl rfl I c5 fun a p2 h4 F=>olS qE F rfl rfl H.sm h4 fun a v4 h5 F=>xA 1 F rfl fun a F=>?_;obtain⟨W,c6,d⟩:=xB d;refine oKI F rfl call145 rfl H (gI W c6 _ aA (H.a h5) (H.a U)) fun a w H aj F=>xA 3 F rfl fun a F=>xJ ?_;exact⟨(decide (0≤W)),(kQ d),F.su,H⟩
    replace d:=zV A d;have F:=F.eb 33 rfl A;refine xA 11 F rfl fun a F=>?_;refine xJ ?_;exact⟨false,(kQ d),F.su,H⟩
   rintro a w ⟨K,rfl,F,H⟩
   have d:=oJ a1;refine xH (vK F rfl (fun E=>?_) (fun E=>?_))
   ·
    replace d:=zW E d;refine xX (xA 1 F rfl fun a F=>xJ (xP (zZ (qH (qH ?_)))));replace d:=bQ d O;refine zZ (qH ?_);replace d:=bR d N;refine qH (xR F rfl (xZ F rfl) ?_);obtain rfl:=oj d;exact⟨rfl,H.bl⟩
   replace d:=zV E d;refine xT (zG (xH (oO (kO F rfl rfl rfl m1 fun a F=>xA 1 F rfl fun a F=>xJ ?_))));replace d:=aB d O;exact⟨_,Nat.lt_succ_self _,i+1,n,⟨f.1,f.2.2⟩,rfl,d,F.su,H⟩
 rintro a w ⟨rfl,F,H⟩
 have d:=oJ N;refine xH (xX (xA 1 F rfl fun a F=>xJ (xP (xR F rfl (xZ F rfl) ?_))));obtain rfl:=oj d;exact⟨rfl,H.bl⟩
def fK (c:Rel) (d:Template):Option Bool:=
 xY (eM d.size (Rel.mk c.arity c.tuples)) fun e=>
 some ((!e))
theorem sU {B:Nat→Prop} {i:Rel} {j:Template} (r:Bool) (e:fK i j=some r) {f:Value} {h:Value} (d:World) (p:∀ c,B c→c<d.heap.size) (t:Bo B d (aY 2 vG) f i) (y:Bo B d (Pt 2 xL) h j):Calls Tryz.prog 108 #[f,h] d (bK (.bool r) d):=by
 unfold fK at e
 refine xW (L:=[(0,f),(1,h)]) func108 rfl rfl rfl (sc rfl (sc rfl sn)) (fun a F=>?_);have H:=Sep.start p;refine xX ?_;obtain⟨I,rfl,A,C⟩:=vG.o t;refine oX F rfl rfl rfl H fun a w J H F=>xA 1 F rfl fun a F=>zR (oF (s':=1) sZ F rfl rfl y xL.f0 fun a K n F=>olI xN F rfl rfl H.sm n fun a D F=>lT zF oE F rfl rfl (H.b 0 rfl) rfl rfl (fun a F=>?_));obtain⟨E,G,e⟩:=xB e;refine oK F rfl call109 rfl H (xBr E G _ aA D (vG.m A (H.a C))) fun a w H F=>xA 2 F rfl fun a F=>xJ (xP (xR F rfl (xZ F rfl) ?_));obtain rfl:=oj e;exact⟨rfl,H.bl⟩
def dA (c:List Rel) (d:Rel→Option Bool):Option Int:=
 kY (σ:=Unit) (
  qW (σ:=Unit) (ρ:=Int) (fun (e:Nat) (f:Rel) (s:Unit)=>
    match s with
    | _=>
    xY (d f) fun h=>
    if h then
     some (.ret ((e:Int)))
    else
     some (.go ())) c 0 ()) fun _=>
 some ((-1))
theorem nT {B:Nat→Prop} {h:List Rel} {D:Rel→Option Bool} (r:Int) (d:dA h D=some r) {t:Value} {j:FuncId} {p:List Value} (f:World) (S:∀ c,B c→c<f.heap.size) (E:Bo B f (Sl 2 vG) t h) (M:∀ args w,(callFunc j args).run Tryz.prog w= .ok (.enter j args) w) (N:∀ (G:Rel) (r:Bool),D G=some r→∀ W,Below f.heap.size f W→∀ (I:Value),Bo (All W) W (aY 2 vG) I G→Calls Tryz.prog j ([I]++p:List Value).toArray W (bK (.bool r) W)):Calls Tryz.prog 143 #[t,.func (.func j) #[] p.toArray] f (lI r f):=by
 unfold dA at d
 refine xW (L:=[(0,t),(1,.func (.func j) #[] p.toArray)]) func143 rfl rfl rfl (sc rfl (sc rfl sn)) (fun a F=>?_);have H:=Sep.start S;refine xX (xA 1 F rfl fun a F=>xJ (xG (xX (xA 1 F rfl fun a F=>oL qP F rfl rfl E fun a J F=>xA 1 F rfl fun a F=>?_))));refine xJ ?_;obtain⟨K,d,A⟩:=xV d;refine qG (fun a w=>K= .nx ()∧Sk a 19 []∧Sep [] B f w []) ?_ ?_
 ·
  refine qM ?_;obtain⟨O,P,d⟩:=vY d;refine vT (fun g a w=>∃ (n:Nat) (i:List Rel),(n≤h.length∧h.drop n=i)∧i.length=g∧qW O i n ()=some K∧Sk a 19 [(8,xF (n:Int)),(0,t),(1,.func (.func j) #[] p.toArray),(7,xF (h.length:Int))]∧Sep [] B f w []) h.length ?_ ?_
  ·
   exact⟨0,h,⟨Nat.zero_le _,rfl⟩,rfl,d,F.su,H⟩
  intro g2 a w ⟨n,i,e,Q,d,F,H⟩
  cases i with
  | nil=>
   replace d:=vX d;have T:=vZ e.1 e.2;have l1:=kW T;refine xX (xA 1 F rfl fun a F=>xJ (xG (aC F rfl l1 (vU (vV (vV (bC ?_)))))));refine xH ?_;exact⟨(kQ d),F.sub sn,H⟩
  | cons x2 i=>
   subst Q;replace e:=qY e.2;have U:=zI e.2.1;obtain⟨a1,d,C⟩:=vE d;rw[P] at d;have l1:=zT e.1;refine xX (xA 1 F rfl fun a F=>xJ (xG (aD F rfl l1 (xT (xH (xG ?_))))));have V:=k64 (Nat.le_of_lt e.1) J;have X:=bG e.1 J;refine qM (xX (xA 2 F rfl fun a F=>zR (xA 2 F rfl fun a F=>?_)));refine xA 1 F rfl fun a F=>oI qP oE F rfl rfl rfl E U fun a p1 R F=>olA zF oE F rfl rfl H.sm R (fun a v1 Y F=>?_);obtain⟨Z,c1,d⟩:=xB d;refine oKV F rfl rfl M rfl H (N _ Z c1 _ H.bl _ (H.a Y)) fun a w H F=>xJ (vK F rfl (fun y=>?_) (fun y=>?_))
   ·
    replace d:=zW y d;refine xX (xA 2 F rfl fun a F=>xJ (xP (zZ (qH (qH ?_)))));replace d:=bQ d C;refine zZ (qH ?_);replace d:=bR d A;refine qH (xR F rfl (xZ F rfl) ?_);obtain rfl:=oj d;exact⟨⟨rfl,H.bl⟩,V⟩
   replace d:=zV y d;refine xT (zG (xH (oO (kO F rfl rfl rfl X fun a F=>xA 1 F rfl fun a F=>xJ ?_))));replace d:=aB d C;exact⟨_,Nat.lt_succ_self _,n+1,i,⟨e.1,e.2.2⟩,rfl,d,F.su,H⟩
 rintro a w ⟨rfl,F,H⟩
 have d:=oJ A;refine xH (xX (xA 1 F rfl fun a F=>xJ (xP (xR F rfl (xZ F rfl) ?_))));obtain rfl:=oj d;exact⟨⟨rfl,H.bl⟩,(show xS (-1) by decide)⟩
def aO (c:List Rel) (d:Rel→Option Bool):Option Bool:=
 xY (dA c d) fun e=>
 some ((decide (0≤e)))
theorem mR {B:Nat→Prop} {p:List Rel} {t:Rel→Option Bool} (r:Bool) (f:aO p t=some r) {n:Value} {e:FuncId} {j:List Value} (d:World) (D:∀ c,B c→c<d.heap.size) (E:Bo B d (Sl 2 vG) n p) (A:∀ args w,(callFunc e args).run Tryz.prog w= .ok (.enter e args) w) (C:∀ (i:Rel) (r:Bool),t i=some r→∀ W,Below d.heap.size d W→∀ (y:Value),Bo (All W) W (aY 2 vG) y i→Calls Tryz.prog e ([y]++j:List Value).toArray W (bK (.bool r) W)):Calls Tryz.prog 107 #[n,.func (.func e) #[] j.toArray] d (bK (.bool r) d):=by
 unfold aO at f
 refine xW (L:=[(0,n),(1,.func (.func e) #[] j.toArray)]) func107 rfl rfl rfl (sc rfl (sc rfl sn)) (fun a F=>?_);have H:=Sep.start D;refine xX (xA 1 F rfl fun a F=>zR (xA 2 F rfl fun a F=>?_));obtain⟨G,I,f⟩:=xB f;refine oKI F rfl call143 rfl H (nT G I _ aA (H.a E) A (fun i r h W l1=>C i r h W (H.bl.trans (l1.mono H.fr.size)))) fun a w H J F=>xA 2 F rfl fun a F=>xJ (xP (xR F rfl (xZ F rfl) ?_));obtain rfl:=oj f;exact⟨rfl,H.bl⟩
def dG (c:Template):Option Bool:=
 kY (σ:=Bool) (
  xY (lH c.size) fun d=>
  if d then  if (decide ((c.rels.length:Int)≤6)) then  xY (aO c.rels (fun e=>fK e (Template.mk c.size c.rels))) fun f=>
    some (.nx (!f)) else  some (.nx false) else  some (.nx false)) fun h=>
 some h
theorem uB {B:Nat→Prop} {j:Template} (r:Bool) (d:dG j=some r) {n:Value} (i:World) (G:∀ c,B c→c<i.heap.size) (I:Bo B i (aY 2 xL) n j):Calls Tryz.prog 69 #[n] i (bK (.bool r) i):=by
 unfold dG at d
 refine xW (L:=[(0,n)]) func69 rfl rfl rfl (sc rfl sn) (fun a F=>?_);have H:=Sep.start G;refine xX ?_;obtain⟨M,rfl,y,p⟩:=xL.o I;refine oX F rfl rfl rfl H fun a w N H F=>xA 1 F rfl fun a F=>xJ (xG ?_);obtain⟨J,d,D⟩:=xV d;refine qG (fun a w=>∃ (t:Bool),J= .nx t∧Sk a 19 [(2,.bool t)]∧Sep [] B i w []) ?_ ?_
 ·
  refine oO (oQ sZ F rfl rfl rfl fun a F=>oB xN F rfl rfl (H.b 0 rfl) rfl (fun a F=>?_));obtain⟨A,K,d⟩:=xB d;refine oK F rfl call106 rfl H (wK A K _ aA y) fun a w H F=>xA 1 F rfl fun a F=>?_
  rcases zC A with e | e
  ·
   replace d:=zW e d;have F:=F.eb 6 rfl e;refine oQ cD F rfl rfl rfl fun a F=>oB kM F rfl rfl (H.b 0 rfl) rfl fun a F=>oL qP F rfl rfl p fun a O F=>xA 3 F rfl fun a F=>?_
   rcases zC (decide ((j.rels.length:Int)≤6)) with f | f
   ·
    replace d:=zW f d;have F:=F.eb 12 rfl f;refine oQ cD F rfl rfl rfl fun a F=>oB kM F rfl rfl (H.b 0 rfl) rfl fun a F=>wZ F rfl rfl rfl (fun a F=>?_);obtain⟨C,E,d⟩:=xB d;refine oK F rfl call107 rfl H (mR C E _ aA (H.a p) call108 (fun P r h W l1 Q f0=>sU r h W aA f0 ((xL.b (H.g 0 rfl).bk y (H.a p)).w l1))) fun a w H F=>xA 3 F rfl fun a F=>xJ ?_;exact⟨(!C),(kQ d),F.su,(H.s [] rfl rfl)⟩
   replace d:=zV f d;have F:=F.eb 12 rfl f;refine xA 7 F rfl fun a F=>xJ ?_;exact⟨false,(kQ d),F.su,(H.s [] rfl rfl)⟩
  replace d:=zV e d;have F:=F.eb 6 rfl e;refine xA 11 F rfl fun a F=>?_;refine xA 2 F rfl fun a F=>xJ ?_;exact⟨false,(kQ d),F.su,(H.s [] rfl rfl)⟩
 rintro a w ⟨t,rfl,F,H⟩
 have d:=oJ D;refine xH (xP (xR F rfl (xZ F rfl) ?_));obtain rfl:=oj d;exact⟨rfl,H.bl⟩
def rH (c:Int):Option Bool:=
 xY (bA c 1 10) fun d=>
 some d
theorem xFe {B:Nat→Prop} {d:Int} (r:Bool) (e:rH d=some r)  (f:World) (i:∀ c,B c→c<f.heap.size) (h:xS d):Calls Tryz.prog 70 #[xF d] f (bK (.bool r) f):=by
 unfold rH at e
 refine xW (L:=[(0,xF d)]) func70 rfl rfl rfl (sc rfl sn) (fun a F=>?_);have H:=Sep.start i;refine xX (xA 1 F rfl fun a F=>zR (xA 1 F rfl fun a F=>?_));obtain⟨j,n,e⟩:=xB e;refine oK F rfl mC rfl H (dN j n _ aA h (show xS (1) by decide) (show xS (10) by decide)) fun a w H F=>xA 1 F rfl fun a F=>xJ (xP (xR F rfl (xZ F rfl) ?_));obtain rfl:=oj e;exact⟨rfl,H.bl⟩
def fW (c:Con) (d:Template) (e:Instance):Option Bool:=
 kY (σ:=Bool) (
  xY (ck ((d.rels.length:Int) - 1)) fun f=>
  xY (bA c.rel 0 f) fun h=>
  if (!h) then  some (.nx true) else  xY (ix d.rels c.rel) fun i=>
   xY (aK e.vars c.scope i.arity) fun j=>
   some (.nx (!j))) fun n=>
 some n
theorem sH {B:Nat→Prop} {t:Con} {y:Template} {A:Instance} (r:Bool) (d:fW t y A=some r) {i:Value} {j:Value} {n:Value} (e:World) (J:∀ c,B c→c<e.heap.size) (K:Bo B e (aY 2 qZ) i t) (C:Bo B e (Pt 2 xL) j y) (M:Bo B e (Pt 2 xO) n A):Calls Tryz.prog 72 #[i,j,n] e (bK (.bool r) e):=by
 unfold fW at d
 refine xW (L:=[(0,i),(1,j),(2,n)]) func72 rfl rfl rfl (sc rfl (sc rfl (sc rfl sn))) (fun a F=>?_);have H:=Sep.start J;refine xX ?_;obtain⟨v3,rfl,N,O⟩:=qZ.o K;refine oX F rfl rfl rfl H fun a w b1 H F=>xA 1 F rfl fun a F=>xJ (xG ?_);obtain⟨P,d,I⟩:=xV d;refine qG (fun a w=>∃ (p:Bool),P= .nx p∧Sk a 28 [(4,.bool p)]∧Sep [] B e w []) ?_ ?_
 ·
  refine xQa H (zH F rfl (fun w l=>oD tD F rfl rfl) fun a F=>qB xN F rfl rfl (H.qb 0 rfl) rfl fun a F=>qF (s':=1) cD F rfl rfl C xL.f1 fun a p1 Q F=>qlS kM F rfl rfl H.q Q fun a v4 R F=>qL qP F rfl rfl R (fun a i2 F=>?_));obtain⟨z1,D,d⟩:=xB d;refine zH F rfl (fun w l=>nU F rfl rfl D) (fun a F=>?_);obtain⟨E,S,d⟩:=xB d;refine dQ F rfl mC rfl (fun w w' h l=>l.through h) (fun w l=>dN E S w aA N (show xS (0) by decide) (bD D)) fun a F=>gU F rfl rfl fun a F=>oM F rfl rfl (fun a F=>?_)
  rcases zC (!E) with f | f
  ·
   replace d:=zW f d;have F:=F.eb 13 rfl f;refine oV F rfl rfl fun a F=>oV F rfl rfl fun a F=>oV F rfl rfl fun a F=>oV F rfl rfl fun a F=>oV F rfl rfl fun a F=>oV F rfl rfl fun a F=>oV F rfl rfl fun a F=>oV F rfl rfl fun a F=>oV F rfl rfl fun a F=>oV F rfl rfl fun a F=>oV F rfl rfl (fun a F=>?_);refine oV F rfl rfl fun a F=>oV F rfl rfl fun a F=>bH F rfl rfl rfl fun a F=>gS F rfl rfl fun a F=>aF fun w H=>xH ?_;exact⟨true,(kQ d),F.su,(H.s [] rfl rfl)⟩
  replace d:=zV f d;have F:=F.eb 13 rfl f;refine qF (s':=1) gP F rfl rfl M xO.f0 fun a p2 T F=>qlI xN F rfl rfl H.q T fun a U F=>zH F rfl (fun w l=>oD gD F rfl rfl) fun a F=>qB qE F rfl rfl (H.qb 0 rfl) rfl fun a F=>qF (s':=1) cD F rfl rfl C xL.f1 fun a p3 V F=>qlS kM F rfl rfl H.q V fun a v5 W F=>zH F rfl (fun w l=>oD tD F rfl rfl) fun a F=>qB xN F rfl rfl (H.qb 0 rfl) rfl (fun a F=>?_);obtain⟨z3,X,d⟩:=xB d;refine qI qP oE F rfl rfl rfl W X fun a a2 Y F=>qF (s':=1) sS F rfl rfl Y vG.f0 fun a p4 Z F=>qlI xN F rfl rfl H.q Z (fun a i4 F=>?_);obtain⟨G,c4,d⟩:=xB d;refine dQ F rfl call37 rfl (fun w w' h l=>l.through h) (fun w l=>jN G c4 w aA U ((H.go l).a O) i4) fun a F=>gU F rfl rfl fun a F=>cG F rfl rfl rfl fun a F=>gS F rfl rfl fun a F=>aF fun w H=>xH ?_;exact⟨(!G),(kQ d),F.su,(H.s [] rfl rfl)⟩
 rintro a w ⟨p,rfl,F,H⟩
 have d:=oJ I;refine xH (xP (xR F rfl (xZ F rfl) ?_));obtain rfl:=oj d;exact⟨rfl,H.bl⟩
def cY (c:List Con) (d:Con→Option Bool):Option Int:=
 kY (σ:=Unit) (
  qW (σ:=Unit) (ρ:=Int) (fun (e:Nat) (f:Con) (s:Unit)=>
    match s with
    | _=>
    xY (d f) fun h=>
    if h then
     some (.ret ((e:Int)))
    else
     some (.go ())) c 0 ()) fun _=>
 some ((-1))
theorem nR {B:Nat→Prop} {h:List Con} {D:Con→Option Bool} (r:Int) (d:cY h D=some r) {t:Value} {j:FuncId} {p:List Value} (f:World) (S:∀ c,B c→c<f.heap.size) (E:Bo B f (Sl 2 qZ) t h) (M:∀ args w,(callFunc j args).run Tryz.prog w= .ok (.enter j args) w) (N:∀ (G:Con) (r:Bool),D G=some r→∀ W,Below f.heap.size f W→∀ (I:Value),Bo (All W) W (aY 2 qZ) I G→Calls Tryz.prog j ([I]++p:List Value).toArray W (bK (.bool r) W)):Calls Tryz.prog 110 #[t,.func (.func j) #[] p.toArray] f (lI r f):=by
 unfold cY at d
 refine xW (L:=[(0,t),(1,.func (.func j) #[] p.toArray)]) func110 rfl rfl rfl (sc rfl (sc rfl sn)) (fun a F=>?_);have H:=Sep.start S;refine xX (xA 1 F rfl fun a F=>xJ (xG (xX (xA 1 F rfl fun a F=>oL oY F rfl rfl E fun a J F=>xA 1 F rfl fun a F=>?_))));refine xJ ?_;obtain⟨K,d,A⟩:=xV d;refine qG (fun a w=>K= .nx ()∧Sk a 19 []∧Sep [] B f w []) ?_ ?_
 ·
  refine qM ?_;obtain⟨O,P,d⟩:=vY d;refine vT (fun g a w=>∃ (n:Nat) (i:List Con),(n≤h.length∧h.drop n=i)∧i.length=g∧qW O i n ()=some K∧Sk a 19 [(8,xF (n:Int)),(0,t),(1,.func (.func j) #[] p.toArray),(7,xF (h.length:Int))]∧Sep [] B f w []) h.length ?_ ?_
  ·
   exact⟨0,h,⟨Nat.zero_le _,rfl⟩,rfl,d,F.su,H⟩
  intro g2 a w ⟨n,i,e,Q,d,F,H⟩
  cases i with
  | nil=>
   replace d:=vX d;have T:=vZ e.1 e.2;have l1:=kW T;refine xX (xA 1 F rfl fun a F=>xJ (xG (aC F rfl l1 (vU (vV (vV (bC ?_)))))));refine xH ?_;exact⟨(kQ d),F.sub sn,H⟩
  | cons x2 i=>
   subst Q;replace e:=qY e.2;have U:=zI e.2.1;obtain⟨a1,d,C⟩:=vE d;rw[P] at d;have l1:=zT e.1;refine xX (xA 1 F rfl fun a F=>xJ (xG (aD F rfl l1 (xT (xH (xG ?_))))));have V:=k64 (Nat.le_of_lt e.1) J;have X:=bG e.1 J;refine qM (xX (xA 2 F rfl fun a F=>zR (xA 2 F rfl fun a F=>?_)));refine xA 1 F rfl fun a F=>oI oY zA F rfl rfl rfl E U fun a p1 R F=>olA iB zA F rfl rfl H.sm R (fun a v1 Y F=>?_);obtain⟨Z,c1,d⟩:=xB d;refine oKV F rfl rfl M rfl H (N _ Z c1 _ H.bl _ (H.a Y)) fun a w H F=>xJ (vK F rfl (fun y=>?_) (fun y=>?_))
   ·
    replace d:=zW y d;refine xX (xA 2 F rfl fun a F=>xJ (xP (zZ (qH (qH ?_)))));replace d:=bQ d C;refine zZ (qH ?_);replace d:=bR d A;refine qH (xR F rfl (xZ F rfl) ?_);obtain rfl:=oj d;exact⟨⟨rfl,H.bl⟩,V⟩
   replace d:=zV y d;refine xT (zG (xH (oO (kO F rfl rfl rfl X fun a F=>xA 1 F rfl fun a F=>xJ ?_))));replace d:=aB d C;exact⟨_,Nat.lt_succ_self _,n+1,i,⟨e.1,e.2.2⟩,rfl,d,F.su,H⟩
 rintro a w ⟨rfl,F,H⟩
 have d:=oJ A;refine xH (xX (xA 1 F rfl fun a F=>xJ (xP (xR F rfl (xZ F rfl) ?_))));obtain rfl:=oj d;exact⟨⟨rfl,H.bl⟩,(show xS (-1) by decide)⟩
def aQ (c:List Con) (d:Con→Option Bool):Option Bool:=
 xY (cY c d) fun e=>
 some ((decide (0≤e)))
theorem mS {B:Nat→Prop} {p:List Con} {t:Con→Option Bool} (r:Bool) (f:aQ p t=some r) {n:Value} {e:FuncId} {j:List Value} (d:World) (D:∀ c,B c→c<d.heap.size) (E:Bo B d (Sl 2 qZ) n p) (A:∀ args w,(callFunc e args).run Tryz.prog w= .ok (.enter e args) w) (C:∀ (i:Con) (r:Bool),t i=some r→∀ W,Below d.heap.size d W→∀ (y:Value),Bo (All W) W (aY 2 qZ) y i→Calls Tryz.prog e ([y]++j:List Value).toArray W (bK (.bool r) W)):Calls Tryz.prog 71 #[n,.func (.func e) #[] j.toArray] d (bK (.bool r) d):=by
 unfold aQ at f
 refine xW (L:=[(0,n),(1,.func (.func e) #[] j.toArray)]) func71 rfl rfl rfl (sc rfl (sc rfl sn)) (fun a F=>?_);have H:=Sep.start D;refine xX (xA 1 F rfl fun a F=>zR (xA 2 F rfl fun a F=>?_));obtain⟨G,I,f⟩:=xB f;refine oKI F rfl call110 rfl H (nR G I _ aA (H.a E) A (fun i r h W l1=>C i r h W (H.bl.trans (l1.mono H.fr.size)))) fun a w H J F=>xA 2 F rfl fun a F=>xJ (xP (xR F rfl (xZ F rfl) ?_));obtain rfl:=oj f;exact⟨rfl,H.bl⟩
def aS (d:Template) (c:Instance):Option Bool:=
 kY (σ:=Bool) (
  xY (dG (Template.mk d.size d.rels)) fun f=>
  if f then  xY (rH c.vars) fun h=>
   if h then  if (decide ((c.cons.length:Int)≤24)) then  xY (aQ c.cons (fun i=>fW i (Template.mk d.size d.rels) (Instance.mk c.vars c.cons))) fun j=>
     some (.nx (!j)) else  some (.nx false) else  some (.nx false) else  some (.nx false)) fun e=>
 some e
theorem jC {B:Nat→Prop} {C:Template} {p:Instance} (r:Bool) (d:aS C p=some r) {t:Value} {y:Value} (e:World) (N:∀ c,B c→c<e.heap.size) (O:Bo B e (aY 2 xL) t C) (P:Bo B e (aY 2 xO) y p):Calls Tryz.prog 34 #[t,y] e (bK (.bool r) e):=by
 unfold aS at d
 refine xW (L:=[(0,t),(1,y)]) func34 rfl rfl rfl (sc rfl (sc rfl sn)) (fun a F=>?_);have H:=Sep.start N;refine xX ?_;obtain⟨V,rfl,D,E⟩:=xL.o O;refine oX F rfl rfl rfl H (fun a w X H F=>?_);obtain⟨U,rfl,G,A⟩:=xO.o P;refine oX F rfl rfl rfl H fun a w Y H F=>xA 1 F rfl fun a F=>xJ (xG ?_);obtain⟨Q,d,M⟩:=xV d;refine qG (fun a w=>∃ (n:Bool),Q= .nx n∧Sk a 25 [(4,.bool n)]∧Sep [] B e w []) ?_ ?_
 ·
  refine oO (lT qU oH F rfl rfl (H.b 1 rfl) rfl rfl (fun a F=>?_));obtain⟨I,R,d⟩:=xB d;refine oK F rfl call69 rfl H (uB I R _ aA (xL.m D (H.a E))) fun a w H F=>xA 1 F rfl fun a F=>?_
  rcases zC I with f | f
  ·
   replace d:=zW f d;have F:=F.eb 7 rfl f;refine oQ gP F rfl rfl rfl fun a F=>oB xN F rfl rfl (H.b 0 rfl) rfl (fun a F=>?_);obtain⟨J,S,d⟩:=xB d;refine oK F rfl call70 rfl H (xFe J S _ aA G) fun a w H F=>xA 2 F rfl fun a F=>?_
   rcases zC J with i | i
   ·
    replace d:=zW i d;have F:=F.eb 12 rfl i;refine oQ bU F rfl rfl rfl fun a F=>oB vR F rfl rfl (H.b 0 rfl) rfl fun a F=>oL oY F rfl rfl A fun a Z F=>xA 3 F rfl fun a F=>?_
    rcases zC (decide ((p.cons.length:Int)≤24)) with j | j
    ·
     replace d:=zW j d;have F:=F.eb 18 rfl j;refine oQ bU F rfl rfl rfl fun a F=>oB vR F rfl rfl (H.b 0 rfl) rfl fun a F=>wZ F rfl rfl rfl (fun a F=>?_);obtain⟨K,T,d⟩:=xB d;refine oK F rfl call71 rfl H (mS K T _ aA (H.a A) call72 (fun a0 r h W l1 u0 f0=>sH r h W aA f0 ((xL.b (H.g 1 rfl).bk D (H.a E)).w l1) ((xO.b (H.g 0 rfl).bk G (H.a A)).w l1))) fun a w H F=>xA 3 F rfl fun a F=>xJ ?_;exact⟨(!K),(kQ d),F.su,(H.s [] rfl rfl)⟩
    replace d:=zV j d;have F:=F.eb 18 rfl j;refine xA 7 F rfl fun a F=>xJ ?_;exact⟨false,(kQ d),F.su,(H.s [] rfl rfl)⟩
   replace d:=zV i d;have F:=F.eb 12 rfl i;refine xA 11 F rfl fun a F=>?_;refine xA 2 F rfl fun a F=>xJ ?_;exact⟨false,(kQ d),F.su,(H.s [] rfl rfl)⟩
  replace d:=zV f d;have F:=F.eb 7 rfl f;refine xA 11 F rfl fun a F=>?_;refine xA 7 F rfl fun a F=>xJ ?_;exact⟨false,(kQ d),F.su,(H.s [] rfl rfl)⟩
 rintro a w ⟨n,rfl,F,H⟩
 have d:=oJ M;refine xH (xP (xR F rfl (xZ F rfl) ?_));obtain rfl:=oj d;exact⟨rfl,H.bl⟩
def rY (c d:Int):Option (List Int):=
 kY (σ:=(List Int)) (
  eJ (σ:=(List Int)) (ρ:=(List Int)) (fun (e:Nat) (f:(List Int))=>
   xY (ck (c+(e:Int))) fun h=>
   xY (ap f ([h])) fun i=>
   some (.go i)) d.toNat 0 []) fun j=>
 some j
theorem xJa {B:Nat→Prop} {f e:Int} (r:(List Int)) (d:rY f e=some r)  (h:World) (O:∀ c,B c→c<h.heap.size) (W:xS f) (C:xS e):Calls Tryz.prog 135 #[xF f,xF e] h (Gv (fun v w'=>∃ (D:Value),v=D∧Sep [] B h w' [rl 1 xM 2 D r])):=by
 unfold rY at d
 refine xW (L:=[(0,xF f),(1,xF e)]) func135 rfl rfl rfl (sc rfl (sc rfl sn)) (fun a F=>?_);have H:=Sep.start O;refine xX (xA 1 F rfl fun a F=>zR (oR0 (R:=xM) xC xI F rfl H fun a w P H F=>xA 1 F rfl fun a F=>xJ ?_));refine xG (xX (xA 2 F rfl fun a F=>xJ ?_));obtain⟨E,d,J⟩:=xV d;refine qG (fun a w=>∃ (A:List Int) (p:Value),E= .nx A∧Sk a 20 [(5,p)]∧Sep [] B h w [rl 1 xM 2 p A]) ?_ ?_
 ·
  refine qM ?_;obtain⟨K,M,d⟩:=gW d;refine vT (fun g a w=>∃ (i:Nat) (t:List Int) (j:Value),i+g=e.toNat∧eJ K g i t=some E∧Sk a 20 [(9,xF (i:Int)),(0,xF f),(5,j),(8,xF e)]∧Sep [] B h w [rl 1 xM 2 j t]) e.toNat ?_ ?_
  ·
   exact⟨0,[],P,(Nat.zero_add _),d,F.su,H⟩
  intro G a w ⟨i,t,j,n,d,F,H⟩
  cases G with
  | zero=>
   replace d:=fJ d;have l1:=mF n;refine xX (xA 1 F rfl fun a F=>xJ (xG (aC F rfl l1 (vU (vV (vV (bC ?_)))))));refine xH ?_;exact⟨t,j,(kQ d),F.su,H⟩
  | succ G=>
   obtain⟨X,d,N⟩:=fI d;rw[M] at d;have l1:=iX n;refine xX (xA 1 F rfl fun a F=>xJ (xG (aD F rfl l1 (xT (xH (xG ?_))))));have Y:=xDz n C;have Q:=pK n C;refine qM (xX (xA 2 F rfl fun a F=>xJ (oO (xA 3 F rfl fun a F=>?_))));obtain⟨S,I,d⟩:=xB d;refine fF F rfl rfl rfl I fun a F=>iN (R:=xM) (y:=S) xC xI qQ rfl rfl F rfl rfl H (Eo.int (bD I)) (fun a w Z H F=>?_);obtain⟨T,U,d⟩:=xB d;refine oPL (sz:=1) (R:=xM) (z:=(xF 0)) (bytes:=8) xC (by kernel_rfl) rfl rfl F rfl rfl rfl (H.s [1,0] rfl rfl) U fun a w V H F=>xA 1 F rfl fun a F=>vP (zG (xH (oO (kO F rfl rfl rfl Q fun a F=>xA 1 F rfl fun a F=>xJ ?_))));replace d:=aB d N;exact⟨_,Nat.lt_succ_self _,i+1,T,V,(by omega),d,F.su,H⟩
 rintro a w ⟨A,p,rfl,F,H⟩
 have d:=oJ J;refine xH (xX (xA 2 F rfl fun a F=>xJ (xP (xR F rfl (xZ F rfl) ?_))));obtain rfl:=oj d;exact⟨_,rfl,p,rfl,H⟩
def cN (c:Template) (d:Instance):Option (List (List Int)):=
 kY (σ:=(List (List Int))) (
  eJ (σ:=(List (List Int))) (ρ:=(List (List Int))) (fun(j:Nat) (e:(List (List Int)))=>
   xY (rY 0 c.size) fun f=>
   xY (ap e ([f])) fun h=>
   some (.go h)) d.vars.toNat 0 []) fun i=>
 some i
theorem pM {B:Nat→Prop} {t:Template} {f:Instance} (r:(List (List Int))) (d:cN t f=some r) {A:Value} {C:Value} (e:World) (T:∀ c,B c→c<e.heap.size) (U:Bo B e (aY 2 xL) A t) (V:Bo B e (aY 2 xO) C f):Calls Tryz.prog 97 #[A,C] e (Gv (fun v w'=>∃ (E:Value),v=E∧Sep [] B e w' [rl 1 (vS 1 xM) 46 E r])):=by
 unfold cN at d
 refine xW (L:=[(0,A),(1,C)]) func97 rfl rfl rfl (sc rfl (sc rfl sn)) (fun a F=>?_);have H:=Sep.start T;refine xX ?_;obtain⟨W,rfl,X,h1⟩:=xL.o U;refine oX F rfl rfl rfl H (fun a w G H F=>?_);obtain⟨a5,rfl,I,h2⟩:=xO.o V;refine oX F rfl rfl rfl H fun a w b2 H F=>xA 1 F rfl fun a F=>zR (oR0 (R:=(vS 1 xM)) xK xU F rfl H fun a w Y H F=>xA 1 F rfl fun a F=>xJ (xG ?_));refine xX (oQ gP F rfl rfl rfl fun a F=>oB xN F rfl rfl (H.b 1 rfl) rfl fun a F=>xA 1 F rfl fun a F=>xJ ?_);obtain⟨J,d,N⟩:=xV d;refine qG (fun a w=>∃ (D:List (List Int)) (j:Value),J= .nx D∧Sk a 19 [(5,j)]∧Sep [] B e w [rl 1 (vS 1 xM) 46 j D]) ?_ ?_
 ·
  refine qM ?_;obtain⟨O,P,d⟩:=gW d;refine vT (fun g a w=>∃ (h:Nat) (n:List (List Int)) (p:Value),h+g=f.vars.toNat∧eJ O g h n=some J∧Sk a 19 [(9,xF (h:Int)),(2,vA G),(5,p),(8,xF f.vars)]∧Sep [] B e w [rl 1 (vS 1 xM) 46 p n,bx G [xF t.size,W] 26]) f.vars.toNat ?_ ?_
  ·
   exact⟨0,[],Y,(Nat.zero_add _),d,F.su,(H.s [0,2] rfl rfl)⟩
  intro K a w ⟨h,n,p,i,d,F,H⟩
  cases K with
  | zero=>
   replace d:=fJ d;have l1:=mF i;refine xX (xA 1 F rfl fun a F=>xJ (xG (aC F rfl l1 (vU (vV (vV (bC ?_)))))));refine xH ?_;exact⟨n,p,(kQ d),F.su,(H.s [0] rfl rfl)⟩
  | succ K=>
   obtain⟨a6,d,Q⟩:=fI d;rw[P] at d;have l1:=iX i;refine xX (xA 1 F rfl fun a F=>xJ (xG (aD F rfl l1 (xT (xH (xG ?_))))));have j1:=xDz i I;have Z:=pK i I;refine qM (oO (xA 1 F rfl fun a F=>oQ sZ F rfl rfl rfl fun a F=>oB xN F rfl rfl (H.b 1 rfl) rfl (fun a F=>?_)));obtain⟨M,c1,d⟩:=xB d;refine oG F rfl call135 rfl (xJa M c1 _ aA (show xS (0) by decide) X) (fun a vv w ⟨v6,a7,S⟩ F=>?_);subst vv;have H:=H.r1 S n0;have H:=H.os;refine gB (R:=(vS 1 xM)) (y:=M) xK xU cC rfl rfl F rfl rfl H El.sl (fun a w v7 H F=>?_);obtain⟨z2,c2,d⟩:=xB d;refine oPL (sz:=1) (R:=(vS 1 xM)) (z:=(vH)) (bytes:=24) xK (by kernel_rfl) rfl rfl F rfl rfl rfl (H.s [1,0,2] rfl rfl) c2 fun a w v8 H F=>xA 1 F rfl fun a F=>vP (zG (xH (oO (kO F rfl rfl rfl Z fun a F=>xA 1 F rfl fun a F=>xJ ?_))));replace d:=aB d Q;exact⟨_,Nat.lt_succ_self _,h+1,z2,v8,(by omega),d,F.su,H⟩
 rintro a w ⟨D,j,rfl,F,H⟩
 have d:=oJ N;refine xH (xX (xA 2 F rfl fun a F=>xJ (xP (xR F rfl (xZ F rfl) ?_))));obtain rfl:=oj d;exact⟨_,rfl,j,rfl,H⟩
def fH (c:Template) (d:Instance):Option (Int×(List Rel)×Int×(List Con)×(List (List (List Int)))×(List Literal)):=
 xY (cN (Template.mk c.size c.rels) (Instance.mk d.vars d.cons)) fun e=>
 some ((c.size,c.rels,d.vars,d.cons,[e],[(Literal.mk 0 0)]))
theorem yF {B:Nat→Prop} {f:Template} {h:Instance} (r:(Int×(List Rel)×Int×(List Con)×(List (List (List Int)))×(List Literal))) (C:fH f h=some r) {I:Value} {J:Value} (d:World) (hN:∀ c,B c→c<d.heap.size) (A0:Bo B d (aY 2 xL) I f) (A1:Bo B d (aY 2 xO) J h):Calls Tryz.prog 64 #[I,J] d (Gv (fun v w'=>∃ (T:Nat) (U V W X:Value),v=vA T∧Sep [] B d w' [bx T [xF r.1,U,xF r.2.2.1,V,W,X] 78,rl 1 (vS 1 (vS 1 xM)) 38 W r.2.2.2.2.1,rl 2 oU 88 X r.2.2.2.2.2]∧xS r.1∧Bo B d (Sl 2 vG) U r.2.1∧xS r.2.2.1∧Bo B d (Sl 2 qZ) V r.2.2.2.1)):=by
 unfold fH at C
 refine xW (L:=[(0,I),(1,J)]) func64 rfl rfl rfl (sc rfl (sc rfl sn)) (fun a F=>?_);have H:=Sep.start hN;refine xX ?_;obtain⟨t,rfl,K,M⟩:=xL.o A0;refine oX F rfl rfl rfl H (fun a w b1 H F=>?_);obtain⟨p,rfl,N,O⟩:=xO.o A1;refine oX F rfl rfl rfl H fun a w b2 H F=>xA 1 F rfl fun a F=>xJ (xG ?_);obtain⟨i,Z,C⟩:=xB C;obtain⟨w1,rfl⟩:∃ x,x=w:=⟨_,rfl⟩;have ai:=H.sm;obtain⟨X1,N1,g1,A,H,a6,aj⟩:=H.mg.fza;have K1:=g1.l.bk;have K2:=g1.r.bk;refine lU H fun w H=>dp (fun G=>∀ (j n:Value) (a:Act) (w:World),Sk a 15 [(4,(.pointer none)),(5,(.agg #[xF f.size,t])),(6,(.agg #[xF h.vars,p])),(10,j),(12,n)]→Sep X1 N1 w1 w [rl 1 (vS 1 (vS 1 xM)) 38 j ([i]),rl 2 oU 88 n ([(Literal.mk 0 0)])]→∀ e,e = #[true,true,true,true,true,true,true,true,false,false,false]→G 3 e a w) ?_ (fun Y=>?_)
 ·
  intro j n a w F H e E;subst E;refine kT H 8 rfl (uA (cs:=#[xF f.size,t,xF h.vars,p,j,n]) (qs:=[(0,[xF f.size,t]),(2,[xF h.vars,p]),(4,[j]),(5,[n])]) underlying78 zeroValue78 (fun w=>by simp [oH,oZ,sizeOf75,sizeOf76];rfl) F rfl rfl rfl rfl rfl ⟨rfl,rfl,Nat.le_of_ble_eq_true rfl,⟨rfl,rfl,Nat.le_of_ble_eq_true rfl,⟨(jM (H.l 0 rfl).one),rfl,Nat.le_of_ble_eq_true rfl,⟨(jM (H.l 1 rfl).one),rfl,Nat.le_of_ble_eq_true rfl,trivial⟩⟩⟩⟩ rfl fun a F=>xJ ⟨⟨_,H⟩,?_⟩);refine kT H 9 rfl (oX F rfl rfl rfl H fun a w b3 H F=>xJ ⟨⟨_,H⟩,?_⟩);refine qV 10 rfl (kA F rfl rfl fun a F=>zN (xH (xP ?_)));have H:=(a6.1 H (Ns.all ⟨n0,⟨n0,⟨n0,trivial⟩⟩⟩)).um;refine xR F rfl (xZ F rfl) ?_;obtain rfl:=oj C;exact⟨_,rfl,b3,t,p,j,n,rfl,(H.s [2,3,4] rfl rfl),K,M,N,O⟩
 refine dp (fun G=>∀ (P D:Value) (a:Act) (w:World),Sk a 15 [(4,(.pointer none)),(5,(.agg #[xF f.size,t])),(6,(.agg #[xF h.vars,p])),(9,P),(12,D)]→Sep X1 N1 w1 w [rl 1 (vS 1 xM) 46 P i,rl 2 oU 88 D ([(Literal.mk 0 0)])]→∀ e,e = #[true,true,true,true,true,false,true,true,false,false,false]→G 4 e a w) ?_ (fun H1=>?_)
 ·
  intro P D a w F H e E;subst E;refine kT H 5 rfl ?_;have H:=H.os;refine gB (R:=(vS 1 (vS 1 xM))) (y:=i) vW kF cQ rfl rfl F rfl rfl H El.sl fun a w v7 H F=>xJ ⟨⟨_,H⟩,?_⟩;exact Y v7 D _ _ (F.su) H _ (by kernel_rfl)
 refine qJ 0 rfl (vBA qU oH F rfl rfl (K2.v H.sm) rfl rfl fun a F=>qJ 1 rfl (vBA vO oZ F rfl rfl (K1.v H.sm) rfl rfl fun a F=>qJ 2 rfl (vBA qU oH F rfl rfl (K2.v H.sm) rfl rfl fun a F=>qJ 3 rfl (vBA vO oZ F rfl rfl (K1.v H.sm) rfl rfl fun a F=>qJ 6 rfl (qT F rfl (fun w l=>pF pV kP (fun w=>by simp [xI];rfl) F rfl rfl rfl rfl on rfl rfl) fun a F=>aT [4,7] (by kernel_rfl) (by simp) ⟨⟨_,rfl,?_⟩,⟨_,rfl,?_⟩,trivial⟩)))))
 ·
  refine aM H (oG F rfl call97 rfl (pM i Z _ aA (xL.m K (H.a (A M))) (xO.m N (H.a (A O)))) (fun a Q w ⟨v8,ak,S⟩ F=>?_));subst Q;have H:=H.r1 S n0;refine xJ ⟨⟨_,H⟩,?_⟩;refine aT [5,7] (by kernel_rfl) (by simp) ⟨⟨_,rfl,?_⟩,⟨_,rfl,?_⟩,trivial⟩
  ·
   refine aM H ?_;have H:=H.os;refine gB (R:=(vS 1 (vS 1 xM))) (y:=i) vW kF cQ rfl rfl F rfl rfl H El.sl fun a w v9 H F=>xJ ⟨⟨_,H⟩,?_⟩;refine kT H 7 rfl (iN (R:=oU) (y:=(Literal.mk 0 0)) zU kR kP rfl rfl F rfl rfl H (Eo.agg (oU.m (show xS 0 by decide) (show xS 0 by decide))) fun a w a7 H F=>xJ ⟨⟨_,H⟩,?_⟩);exact Y v9 a7 _ _ (F.su) (H.s [1,0] rfl rfl) _ (by kernel_rfl)
  refine aM H (iN (R:=oU) (y:=(Literal.mk 0 0)) zU kR kP rfl rfl F rfl rfl H (Eo.agg (oU.m (show xS 0 by decide) (show xS 0 by decide))) fun a w a8 H F=>xJ ⟨⟨_,H⟩,?_⟩);exact H1 v8 a8 _ _ (F.su) (H.s [1,0] rfl rfl) _ (by kernel_rfl)
 refine aM H (iN (R:=oU) (y:=(Literal.mk 0 0)) zU kR kP rfl rfl F rfl rfl H (Eo.agg (oU.m (show xS 0 by decide) (show xS 0 by decide))) fun a w a9 H F=>xJ ⟨⟨_,H⟩,?_⟩);refine kT H 4 rfl (oG F rfl call97 rfl (pM i Z _ aA (xL.m K (H.a (A M))) (xO.m N (H.a (A O)))) (fun a Q w ⟨aa,al,S⟩ F=>?_));subst Q;have H:=H.r1 S n0;refine xJ ⟨⟨_,H⟩,?_⟩;exact H1 aa a9 _ _ (F.su) H _ (by kernel_rfl)
def cZ (c:List Int) (d:Int):Option Int:=
 kY (σ:=Unit) (
  qW (σ:=Unit) (ρ:=Int) (fun (e:Nat) (f:Int) (s:Unit)=>
    match s with
    | _=>
    if (d==f) then
     some (.ret ((e:Int)))
    else
     some (.go ())) c 0 ()) fun _=>
 some ((-1))
theorem nQ {B:Nat→Prop} {f:List Int} {n:Int} (r:Int) (d:cZ f n=some r) {p:Value} (i:World) (K:∀ c,B c→c<i.heap.size) (D:Bo B i (Sl 1 xM) p f) (R:xS n):Calls Tryz.prog 136 #[p,xF n] i (lI r i):=by
 unfold cZ at d
 refine xW (L:=[(0,p),(1,xF n)]) func136 rfl rfl rfl (sc rfl (sc rfl sn)) (fun a F=>?_);have H:=Sep.start K;refine xX (xA 1 F rfl fun a F=>xJ (xG (xX (xA 1 F rfl fun a F=>oL xC F rfl rfl D fun a E F=>xA 1 F rfl fun a F=>?_))));refine xJ ?_;obtain⟨y,d,A⟩:=xV d;refine qG (fun a w=>y= .nx ()∧Sk a 19 []∧Sep [] B i w []) ?_ ?_
 ·
  refine qM ?_;obtain⟨G,I,d⟩:=vY d;refine vT (fun g a w=>∃ (j:Nat) (h:List Int),(j≤f.length∧f.drop j=h)∧h.length=g∧qW G h j ()=some y∧Sk a 19 [(8,xF (j:Int)),(0,p),(1,xF n),(7,xF (f.length:Int))]∧Sep [] B i w []) f.length ?_ ?_
  ·
   exact⟨0,f,⟨Nat.zero_le _,rfl⟩,rfl,d,F.su,H⟩
  intro T a w ⟨j,h,e,J,d,F,H⟩
  cases h with
  | nil=>
   replace d:=vX d;have M:=vZ e.1 e.2;have l1:=kW M;refine xX (xA 1 F rfl fun a F=>xJ (xG (aC F rfl l1 (vU (vV (vV (bC ?_)))))));refine xH ?_;exact⟨(kQ d),F.sub sn,H⟩
  | cons U h=>
   subst J;replace e:=qY e.2;have N:=zI e.2.1;obtain⟨S,d,C⟩:=vE d;rw[I] at d;have l1:=zT e.1;refine xX (xA 1 F rfl fun a F=>xJ (xG (aD F rfl l1 (xT (xH (xG ?_))))));have O:=k64 (Nat.le_of_lt e.1) E;have P:=bG e.1 E;refine qM (xX (xA 2 F rfl fun a F=>zR (xA 2 F rfl fun a F=>?_)));refine xA 1 F rfl fun a F=>oI xC xI F rfl rfl rfl D N fun a V Q F=>olI xN F rfl rfl H.sm Q fun a W F=>xA 1 F rfl fun a F=>xJ (vK F rfl (fun t=>?_) (fun t=>?_))
   ·
    replace d:=zW t d;refine xX (xA 2 F rfl fun a F=>xJ (xP (zZ (qH (qH ?_)))));replace d:=bQ d C;refine zZ (qH ?_);replace d:=bR d A;refine qH (xR F rfl (xZ F rfl) ?_);obtain rfl:=oj d;exact⟨⟨rfl,H.bl⟩,O⟩
   replace d:=zV t d;refine xT (zG (xH (oO (kO F rfl rfl rfl P fun a F=>xA 1 F rfl fun a F=>xJ ?_))));replace d:=aB d C;exact⟨_,Nat.lt_succ_self _,j+1,h,⟨e.1,e.2.2⟩,rfl,d,F.su,H⟩
 rintro a w ⟨rfl,F,H⟩
 have d:=oJ A;refine xH (xX (xA 1 F rfl fun a F=>xJ (xP (xR F rfl (xZ F rfl) ?_))));obtain rfl:=oj d;exact⟨⟨rfl,H.bl⟩,(show xS (-1) by decide)⟩
def zQ (c:List Int) (d:Int):Option Bool:=
 xY (cZ c d) fun e=>
 some ((decide (0≤e)))
theorem dC {B:Nat→Prop} {i:List Int} {d:Int} (r:Bool) (e:zQ i d=some r) {h:Value} (f:World) (n:∀ c,B c→c<f.heap.size) (p:Bo B f (Sl 1 xM) h i) (j:xS d):Calls Tryz.prog 98 #[h,xF d] f (bK (.bool r) f):=by
 unfold zQ at e
 refine xW (L:=[(0,h),(1,xF d)]) func98 rfl rfl rfl (sc rfl (sc rfl sn)) (fun a F=>?_);have H:=Sep.start n;refine xX (xA 1 F rfl fun a F=>zR (xA 2 F rfl fun a F=>?_));obtain⟨t,y,e⟩:=xB e;refine oKI F rfl call136 rfl H (nQ t y _ aA (H.a p) j) fun a w H A F=>xA 2 F rfl fun a F=>xJ (xP (xR F rfl (xZ F rfl) ?_));obtain rfl:=oj e;exact⟨rfl,H.bl⟩
def eO (c:List (List Int)):Option (List (List Int)):=
 kY (σ:=(List (List Int))) (
  qW (σ:=(List (List Int))) (ρ:=(List (List Int))) (fun (j:Nat) (d:(List Int)) (e:(List (List Int)))=>
   xY (zE d) fun f=>
   xY (ap e ([f])) fun h=>
   some (.go h)) c 0 []) fun i=>
 some i
theorem tF {B:Nat→Prop} {f:List (List Int)} (r:(List (List Int))) (d:eO f=some r) {n:Value} (i:World) (Q:∀ c,B c→c<i.heap.size) (G:Bo B i (Sl 1 (vS 1 xM)) n f):Calls Tryz.prog 30 #[n] i (Gv (fun v w'=>∃ (D:Value),v=D∧Sep [] B i w' [rl 1 (vS 1 xM) 46 D r])):=by
 unfold eO at d
 refine xW (L:=[(0,n)]) func30 rfl rfl rfl (sc rfl sn) (fun a F=>?_);have H:=Sep.start Q;refine xX (xA 1 F rfl fun a F=>zR (oR0 (R:=(vS 1 xM)) xK xU F rfl H fun a w T H F=>xA 1 F rfl fun a F=>xJ ?_));refine xG (xX (xA 1 F rfl fun a F=>oL xK F rfl rfl G fun a I F=>xA 1 F rfl fun a F=>xJ ?_));obtain⟨E,d,K⟩:=xV d;refine qG (fun a w=>∃ (C:List (List Int)) (p:Value),E= .nx C∧Sk a 20 [(3,p)]∧Sep [] B i w [rl 1 (vS 1 xM) 46 p C]) ?_ ?_
 ·
  refine qM ?_;obtain⟨M,N,d⟩:=vY d;refine vT (fun g a w=>∃ (j:Nat) (h t:List (List Int)) (A:Value),(j≤f.length∧f.drop j=h)∧h.length=g∧qW M h j t=some E∧Sk a 20 [(9,xF (j:Int)),(3,A),(7,n),(8,xF (f.length:Int))]∧Sep [] B i w [rl 1 (vS 1 xM) 46 A t]) f.length ?_ ?_
  ·
   exact⟨0,f,[],T,⟨Nat.zero_le _,rfl⟩,rfl,d,F.su,H⟩
  intro g1 a w ⟨j,h,t,A,e,O,d,F,H⟩
  cases h with
  | nil=>
   replace d:=vX d;have U:=vZ e.1 e.2;have l1:=kW U;refine xX (xA 1 F rfl fun a F=>xJ (xG (aC F rfl l1 (vU (vV (vV (bC ?_)))))));refine xH ?_;exact⟨t,A,(kQ d),F.su,H⟩
  | cons x1 h=>
   subst O;replace e:=qY e.2;have V:=zI e.2.1;obtain⟨a4,d,P⟩:=vE d;rw[N] at d;have l1:=zT e.1;refine xX (xA 1 F rfl fun a F=>xJ (xG (aD F rfl l1 (xT (xH (xG ?_))))));have j1:=k64 (Nat.le_of_lt e.1) I;have W:=bG e.1 I;refine qM (xX (oI xK xU F rfl rfl rfl G V fun a p1 X F=>olS qE F rfl rfl H.sm X fun a v4 Y F=>xA 1 F rfl fun a F=>xJ (oO (xA 2 F rfl fun a F=>?_))));obtain⟨J,Z,d⟩:=xB d;refine oG F rfl call66 rfl (cE J Z _ aA (H.a Y)) (fun a vv w ⟨v5,a5,S⟩ F=>?_);subst vv;have H:=H.r1 S n0;have H:=H.os;refine gB (R:=(vS 1 xM)) (y:=J) xK xU cC rfl rfl F rfl rfl H El.sl (fun a w v6 H F=>?_);obtain⟨z2,c2,d⟩:=xB d;refine oPL (sz:=1) (R:=(vS 1 xM)) (z:=(vH)) (bytes:=24) xK (by kernel_rfl) rfl rfl F rfl rfl rfl (H.s [1,0] rfl rfl) c2 fun a w v7 H F=>xA 1 F rfl fun a F=>vP (zG (xH (oO (kO F rfl rfl rfl W fun a F=>xA 1 F rfl fun a F=>xJ ?_))));replace d:=aB d P;exact⟨_,Nat.lt_succ_self _,j+1,h,z2,v7,⟨e.1,e.2.2⟩,rfl,d,F.su,H⟩
 rintro a w ⟨C,p,rfl,F,H⟩
 have d:=oJ K;refine xH (xX (xA 2 F rfl fun a F=>xJ (xP (xR F rfl (xZ F rfl) ?_))));obtain rfl:=oj d;exact⟨_,rfl,p,rfl,H⟩
def gV (c:Con) (d:List Int):Option Bool:=
 kY (σ:=Unit) (
  qW (σ:=Unit) (ρ:=Bool) (fun (e:Nat) (h:Int) (s:Unit)=>
    match s with
    | _=>
    kY (σ:=Unit) (
     eJ (σ:=Unit) (ρ:=(Ctl (Unit) Bool)) (fun (f:Nat) (s:Unit)=>
       match s with
       | _=>
       kY (σ:=Bool) (
        xY (ix c.scope (f:Int)) fun i=>
        if (i==h) then  xY (ix d (f:Int)) fun j=>
         xY (ix d (e:Int)) fun n=>
         some (.nx (j != n)) else  some (.nx false)) fun p=>
       if p then
        some (.ret (.ret false))
       else
        some (.go ())) (e:Int).toNat 0 ()) fun _=>
    some (.go ())) c.scope 0 ()) fun _=>
 some true
theorem yE {B:Nat→Prop} {f:Con} {P:List Int} (r:Bool) (d:gV f P=some r) {E:Value} {p:Value} (i:World) (hN:∀ c,B c→c<i.heap.size) (A0:Bo B i (aY 2 qZ) E f) (Q:Bo B i (Sl 1 xM) p P):Calls Tryz.prog 174 #[E,p] i (bK (.bool r) i):=by
 unfold gV at d
 refine xW (L:=[(0,E),(1,p)]) func174 rfl rfl rfl (sc rfl (sc rfl sn)) (fun a F=>?_);have H:=Sep.start hN;refine xX ?_;obtain⟨j,rfl,i1,G⟩:=qZ.o A0;refine oX F rfl rfl rfl H fun a w n H F=>xA 1 F rfl fun a F=>xJ (xG (xX (oQ gD F rfl rfl rfl fun a F=>oB qE F rfl rfl (H.b 0 rfl) rfl fun a F=>oL xC F rfl rfl G fun a R F=>xA 1 F rfl fun a F=>?_)));refine xJ ?_;obtain⟨S,d,K⟩:=xV d;refine qG (fun a w=>S= .nx ()∧Sk a 40 []∧Sep [] B i w []) ?_ ?_
 ·
  refine qM ?_;obtain⟨W,X,d⟩:=vY d;refine vT (fun g a w=>∃ (e:Nat) (t:List Int),(e≤f.scope.length∧f.scope.drop e=t)∧t.length=g∧qW W t e ()=some S∧Sk a 40 [(11,xF (e:Int)),(1,p),(2,vA n),(9,j),(10,xF (f.scope.length:Int))]∧Sep [] B i w [bx n [xF f.rel,j] 68]) f.scope.length ?_ ?_
  ·
   exact⟨0,f.scope,⟨Nat.zero_le _,rfl⟩,rfl,d,F.su,H⟩
  intro g1 a w ⟨e,t,h,Y,d,F,H⟩
  cases t with
  | nil=>
   replace d:=vX d;have q1:=vZ h.1 h.2;have l1:=kW q1;refine xX (xA 1 F rfl fun a F=>xJ (xG (aC F rfl l1 (vU (vV (vV (bC ?_)))))));refine xH ?_;exact⟨(kQ d),F.sub sn,(H.s [] rfl rfl)⟩
  | cons I t=>
   subst Y;replace h:=qY h.2;have y1:=zI h.2.1;obtain⟨aj,d,M⟩:=vE d;rw[X] at d;have l1:=zT h.1;refine xX (xA 1 F rfl fun a F=>xJ (xG (aD F rfl l1 (xT (xH (xG ?_))))));have T:=k64 (Nat.le_of_lt h.1) R;have m1:=bG h.1 R;refine qM (xX (xA 1 F rfl fun a F=>oI xC xI F rfl rfl rfl G y1 fun a p1 h2 F=>olI xN F rfl rfl H.sm h2 fun a i3 F=>xA 2 F rfl fun a F=>xJ (xG ?_)));refine oO (xA 2 F rfl fun a F=>xJ ?_);obtain⟨U,d,N⟩:=xV d;refine qG (fun a w=>U= .nx ()∧Sk a 40 [(1,p),(2,vA n),(9,j),(10,xF (f.scope.length:Int)),(11,xF (e:Int))]∧Sep [] B i w [bx n [xF f.rel,j] 68]) ?_ ?_
   ·
    refine qM ?_;obtain⟨Z,a0,d⟩:=gW d;refine vT (fun g a w=>∃ (y:Nat),y+g=(e:Int).toNat∧eJ Z g y ()=some U∧Sk a 40 [(17,xF (y:Int)),(1,p),(2,vA n),(5,xF (e:Int)),(6,xF I),(9,j),(10,xF (f.scope.length:Int)),(11,xF (e:Int)),(16,xF (e:Int))]∧Sep [] B i w [bx n [xF f.rel,j] 68]) (e:Int).toNat ?_ ?_
    ·
     exact⟨0,(Nat.zero_add _),d,F.su,H⟩
    intro V a w ⟨y,C,d,F,H⟩
    cases V with
    | zero=>
     replace d:=fJ d;have l2:=mF C;refine xX (xA 1 F rfl fun a F=>xJ (xG (aC F rfl l2 (vU (vV (vV (bC ?_)))))));refine xH ?_;exact⟨(kQ d),F.su,H⟩
    | succ V=>
     obtain⟨ak,d,O⟩:=fI d;rw[a0] at d;have l2:=iX C;refine xX (xA 1 F rfl fun a F=>xJ (xG (aD F rfl l2 (xT (xH (xG ?_))))));have j2:=xDz C T;have m2:=pK C T;refine qM (xX (xA 2 F rfl fun a F=>xJ (xG ?_)));obtain⟨o3,d,a1⟩:=xV d;refine qG (fun a w=>∃ (J:Bool),o3= .nx J∧Sk a 40 [(1,p),(2,vA n),(5,xF (e:Int)),(6,xF I),(9,j),(10,xF (f.scope.length:Int)),(11,xF (e:Int)),(16,xF (e:Int)),(17,xF (y:Int)),(37,.bool J)]∧Sep [] B i w [bx n [xF f.rel,j] 68]) ?_ ?_
     ·
      refine xQa H (zH F rfl (fun w l=>oD gD F rfl rfl) fun a F=>qB qE F rfl rfl (H.qb 0 rfl) rfl fun a F=>oM F rfl rfl (fun a F=>?_));obtain⟨z1,c1,d⟩:=xB d;refine qI xC xI F rfl rfl rfl G c1 fun a p2 h3 F=>qlI xN F rfl rfl H.q h3 fun a i4 F=>oM F rfl rfl fun a F=>zH F rfl (fun w l=>xBe F rfl rfl) fun a F=>oM F rfl rfl (fun a F=>?_)
      rcases zC (z1==I) with A | A
      ·
       replace d:=zW A d;have F:=F.eb 27 rfl A;refine oM F rfl rfl fun a F=>oM F rfl rfl (fun a F=>?_);obtain⟨z2,c2,d⟩:=xB d;refine qI xC xI F rfl rfl rfl Q c2 fun a p3 h4 F=>qlI xN F rfl rfl H.q h4 fun a i5 F=>oM F rfl rfl fun a F=>oM F rfl rfl (fun a F=>?_);obtain⟨z3,c3,d⟩:=xB d;refine qI xC xI F rfl rfl rfl Q c3 fun a p4 h5 F=>qlI xN F rfl rfl H.q h5 fun a i6 F=>zH F rfl (fun w l=>uN F rfl rfl) fun a F=>bH F rfl rfl rfl fun a F=>aF fun w H=>xH ?_;exact⟨(z2 != z3),(kQ d),F.su,H⟩
      replace d:=zV A d;have F:=F.eb 27 rfl A;refine oV F rfl rfl fun a F=>oV F rfl rfl fun a F=>oV F rfl rfl fun a F=>oV F rfl rfl fun a F=>oV F rfl rfl fun a F=>oV F rfl rfl fun a F=>oV F rfl rfl fun a F=>oV F rfl rfl fun a F=>oV F rfl rfl fun a F=>cG F rfl rfl rfl fun a F=>aF (fun w H=>?_);refine xH ?_;exact⟨false,(kQ d),F.su,H⟩
     rintro a w ⟨J,rfl,F,H⟩
     have d:=oJ a1;refine xH (vK F rfl (fun D=>?_) (fun D=>?_))
     ·
      replace d:=zW D d;refine xX (xA 1 F rfl fun a F=>xJ (xP (zZ (qH (qH ?_)))));replace d:=bQ d O;refine zZ (qH ?_);replace d:=bR d N;refine zZ (qH (qH ?_));replace d:=bQ d M;refine zZ (qH ?_);replace d:=bR d K;refine qH (xR F rfl (xZ F rfl) ?_);obtain rfl:=oj d;exact⟨rfl,H.bl⟩
     replace d:=zV D d;refine xT (zG (xH (oO (kO F rfl rfl rfl m2 fun a F=>xA 1 F rfl fun a F=>xJ ?_))));replace d:=aB d O;exact⟨_,Nat.lt_succ_self _,y+1,(by omega),d,F.su,H⟩
   rintro a w ⟨rfl,F,H⟩
   have d:=oJ N;refine zG (xH (oO (kO F rfl rfl rfl m1 fun a F=>xA 1 F rfl fun a F=>xJ ?_)));replace d:=aB d M;exact⟨_,Nat.lt_succ_self _,e+1,t,⟨h.1,h.2.2⟩,rfl,d,F.su,H⟩
 rintro a w ⟨rfl,F,H⟩
 have d:=oJ K;refine xH (xX (xA 1 F rfl fun a F=>xJ (xP (xR F rfl (xZ F rfl) ?_))));obtain rfl:=oj d;exact⟨rfl,H.bl⟩
def fM (c:List Int) (e f:Int) (d:Con) (h:(List (List Int))):Option Bool:=
 kY (σ:=Bool) (
  xY (ix c e) fun i=>
  if (i != f) then  some (.nx true) else  xY (gV d c) fun j=>
   some (.nx (!j))) fun n=>
 if n then
  some false
 else
  kY (σ:=Unit) (
   qW (σ:=Unit) (ρ:=Bool) (fun (p:Nat) (t:Int) (s:Unit)=>
     match s with
     | _=>
     xY (ix h t) fun y=>
     xY (ix c (p:Int)) fun A=>
     xY (zQ y A) fun B=>
     if (!B) then
      some (.ret false)
     else
      some (.go ())) d.scope 0 ()) fun _=>
  some true
theorem uV {B:Nat→Prop} {P:List Int} {Q E:Int} {i:Con} {R:(List (List Int))} (r:Bool) (d:fM P Q E i R=some r) {t:Value} {G:Value} {I:Value} {A:Value} {y:Value} (e:World) (hN:∀ c,B c→c<e.heap.size) (J:Bo B e (Sl 1 xM) t P) (A1:Bo B e (Pt 1 xM) G Q) (A2:Bo B e (Pt 1 xM) I E) (S:Bo B e (Pt 2 qZ) A i) (A4:Bo B e (Pt 1 (vS 1 (vS 1 xM))) y R):Calls Tryz.prog 173 #[t,G,I,A,y] e (bK (.bool r) e):=by
 unfold fM at d
 refine xW (L:=[(0,t),(1,G),(2,I),(3,A),(4,y)]) func173 rfl rfl rfl (sc rfl (sc rfl (sc rfl (sc rfl (sc rfl sn))))) (fun a F=>?_);have H:=Sep.start hN;refine xX (xA 1 F rfl fun a F=>xJ (xG (xG ?_)));obtain⟨o1,d,W⟩:=xV d;refine qG (fun a w=>∃ (K:Bool),o1= .nx K∧Sk a 40 [(0,t),(3,A),(4,y),(20,.bool K)]∧Sep [] B e w []) ?_ ?_
 ·
  refine xQa H (oM F rfl rfl fun a F=>qlI mM F rfl rfl H.q A1 (fun a i1 F=>?_));obtain⟨z1,c1,d⟩:=xB d;refine qI xC xI F rfl rfl rfl J c1 fun a p1 h1 F=>qlI xN F rfl rfl H.q h1 fun a aq F=>qlI xN F rfl rfl H.q A2 fun a i2 F=>zH F rfl (fun w l=>uN F rfl rfl) fun a F=>oM F rfl rfl (fun a F=>?_)
  rcases zC (z1 != E) with p | p
  ·
   replace d:=zW p d;have F:=F.eb 15 rfl p;refine oV F rfl rfl fun a F=>oV F rfl rfl fun a F=>oV F rfl rfl fun a F=>oV F rfl rfl fun a F=>bH F rfl rfl rfl fun a F=>aF fun w H=>xH ?_;exact⟨true,(kQ d),F.su,H⟩
  replace d:=zV p d;have F:=F.eb 15 rfl p;refine qlA iB zA F rfl rfl H.q S fun a v5 h2 F=>oM F rfl rfl (fun a F=>?_);obtain⟨T,c2,d⟩:=xB d;refine dQ F rfl call174 rfl (fun w w' h l=>l.through h) (fun w l=>yE T c2 w aA ((H.go l).a h2) ((H.go l).a J)) fun a F=>gU F rfl rfl fun a F=>cG F rfl rfl rfl fun a F=>aF fun w H=>xH ?_;exact⟨(!T),(kQ d),F.su,H⟩
 rintro a w ⟨K,rfl,F,H⟩
 have d:=oJ W;refine xH (vK F rfl (fun C=>?_) (fun C=>?_))
 ·
  replace d:=zW C d;refine xX (xA 1 F rfl fun a F=>xJ (xP (qH (xR F rfl (xZ F rfl) ?_))));obtain rfl:=oj d;exact⟨rfl,H.bl⟩
 replace d:=zV C d;refine xT (xH (xG (xX (oF (s':=1) gD F rfl rfl S qZ.f1 fun a p2 h3 F=>olS qE F rfl rfl H.sm h3 fun a v6 U F=>oL xC F rfl rfl U fun a V F=>xA 1 F rfl fun a F=>xJ ?_))));obtain⟨M,d,N⟩:=xV d;refine qG (fun a w=>M= .nx ()∧Sk a 40 []∧Sep [] B e w []) ?_ ?_
 ·
  refine qM ?_;obtain⟨X,Y,d⟩:=vY d;refine vT (fun g a w=>∃ (n:Nat) (j:List Int),(n≤i.scope.length∧i.scope.drop n=j)∧j.length=g∧qW X j n ()=some M∧Sk a 40 [(24,xF (n:Int)),(0,t),(4,y),(22,v6),(23,xF (i.scope.length:Int))]∧Sep [] B e w []) i.scope.length ?_ ?_
  ·
   exact⟨0,i.scope,⟨Nat.zero_le _,rfl⟩,rfl,d,F.su,H⟩
  intro g1 a w ⟨n,j,f,Z,d,F,H⟩
  cases j with
  | nil=>
   replace d:=vX d;have q1:=vZ f.1 f.2;have l1:=kW q1;refine xX (xA 1 F rfl fun a F=>xJ (xG (aC F rfl l1 (vU (vV (vV (bC ?_)))))));refine xH ?_;exact⟨(kQ d),F.sub sn,H⟩
  | cons x1 j=>
   subst Z;replace f:=qY f.2;have y4:=zI f.2.1;obtain⟨ar,d,O⟩:=vE d;rw[Y] at d;have l1:=zT f.1;refine xX (xA 1 F rfl fun a F=>xJ (xG (aD F rfl l1 (xT (xH (xG ?_))))));have j1:=k64 (Nat.le_of_lt f.1) V;have m1:=bG f.1 V;refine qM (xX (xA 1 F rfl fun a F=>oI xC xI F rfl rfl rfl U y4 fun a p3 h5 F=>olI xN F rfl rfl H.sm h5 fun a i4 F=>xA 2 F rfl fun a F=>xJ (xG ?_)));refine xQa H (qlS zD F rfl rfl H.q A4 fun a v7 h6 F=>oM F rfl rfl (fun a F=>?_));obtain⟨z3,c3,d⟩:=xB d;refine qI xK xU F rfl rfl rfl h6 c3 fun a p4 h7 F=>qlS qE F rfl rfl H.q h7 fun a v8 h8 F=>oM F rfl rfl fun a F=>oM F rfl rfl (fun a F=>?_);obtain⟨z4,c4,d⟩:=xB d;refine qI xC xI F rfl rfl rfl J c4 fun a p5 h9 F=>qlI xN F rfl rfl H.q h9 (fun a i5 F=>?_);obtain⟨z5,c5,d⟩:=xB d;refine dQ F rfl call98 rfl (fun w w' h l=>l.through h) (fun w l=>dC z5 c5 w aA ((H.go l).a h8) i5) fun a F=>gU F rfl rfl fun a F=>aF fun w H=>xH (vK F rfl (fun D=>?_) (fun D=>?_))
   ·
    replace d:=zW D d;refine xX (xA 1 F rfl fun a F=>xJ (xP (zZ (qH (qH ?_)))));replace d:=bQ d O;refine zZ (qH ?_);replace d:=bR d N;refine qH (xR F rfl (xZ F rfl) ?_);obtain rfl:=oj d;exact⟨rfl,H.bl⟩
   replace d:=zV D d;refine xT (zG (xH (oO (kO F rfl rfl rfl m1 fun a F=>xA 1 F rfl fun a F=>xJ ?_))));replace d:=aB d O;exact⟨_,Nat.lt_succ_self _,n+1,j,⟨f.1,f.2.2⟩,rfl,d,F.su,H⟩
 rintro a w ⟨rfl,F,H⟩
 have d:=oJ N;refine xH (xX (xA 1 F rfl fun a F=>xJ (xP (xR F rfl (xZ F rfl) ?_))));obtain rfl:=oj d;exact⟨rfl,H.bl⟩
def kE (c:List (List Int)) (d:(List Int)→Option Bool):Option Int:=
 kY (σ:=Unit) (
  qW (σ:=Unit) (ρ:=Int) (fun (e:Nat) (f:(List Int)) (s:Unit)=>
    match s with
    | _=>
    xY (d f) fun h=>
    if h then
     some (.ret ((e:Int)))
    else
     some (.go ())) c 0 ()) fun _=>
 some ((-1))
theorem jP {B:Nat→Prop} {h:List (List Int)} {D:(List Int)→Option Bool} (r:Int) (d:kE h D=some r) {t:Value} {j:FuncId} {p:List Value} (f:World) (S:∀ c,B c→c<f.heap.size) (E:Bo B f (Sl 1 (vS 1 xM)) t h) (M:∀ args w,(callFunc j args).run Tryz.prog w= .ok (.enter j args) w) (N:∀ (G:List Int) (r:Bool),D G=some r→∀ W,Below f.heap.size f W→∀ (I:Value),Bo (All W) W (Sl 1 xM) I G→Calls Tryz.prog j ([I]++p:List Value).toArray W (bK (.bool r) W)):Calls Tryz.prog 73 #[t,.func (.func j) #[] p.toArray] f (lI r f):=by
 unfold kE at d
 refine xW (L:=[(0,t),(1,.func (.func j) #[] p.toArray)]) func73 rfl rfl rfl (sc rfl (sc rfl sn)) (fun a F=>?_);have H:=Sep.start S;refine xX (xA 1 F rfl fun a F=>xJ (xG (xX (xA 1 F rfl fun a F=>oL xK F rfl rfl E fun a J F=>xA 1 F rfl fun a F=>?_))));refine xJ ?_;obtain⟨K,d,A⟩:=xV d;refine qG (fun a w=>K= .nx ()∧Sk a 19 []∧Sep [] B f w []) ?_ ?_
 ·
  refine qM ?_;obtain⟨O,P,d⟩:=vY d;refine vT (fun g a w=>∃ (n:Nat) (i:List (List Int)),(n≤h.length∧h.drop n=i)∧i.length=g∧qW O i n ()=some K∧Sk a 19 [(8,xF (n:Int)),(0,t),(1,.func (.func j) #[] p.toArray),(7,xF (h.length:Int))]∧Sep [] B f w []) h.length ?_ ?_
  ·
   exact⟨0,h,⟨Nat.zero_le _,rfl⟩,rfl,d,F.su,H⟩
  intro g2 a w ⟨n,i,e,Q,d,F,H⟩
  cases i with
  | nil=>
   replace d:=vX d;have T:=vZ e.1 e.2;have l1:=kW T;refine xX (xA 1 F rfl fun a F=>xJ (xG (aC F rfl l1 (vU (vV (vV (bC ?_)))))));refine xH ?_;exact⟨(kQ d),F.sub sn,H⟩
  | cons x2 i=>
   subst Q;replace e:=qY e.2;have U:=zI e.2.1;obtain⟨a1,d,C⟩:=vE d;rw[P] at d;have l1:=zT e.1;refine xX (xA 1 F rfl fun a F=>xJ (xG (aD F rfl l1 (xT (xH (xG ?_))))));have V:=k64 (Nat.le_of_lt e.1) J;have X:=bG e.1 J;refine qM (xX (xA 2 F rfl fun a F=>zR (xA 2 F rfl fun a F=>?_)));refine xA 1 F rfl fun a F=>oI xK xU F rfl rfl rfl E U fun a p1 R F=>olS qE F rfl rfl H.sm R (fun a v1 Y F=>?_);obtain⟨Z,c1,d⟩:=xB d;refine oKV F rfl rfl M rfl H (N _ Z c1 _ H.bl _ (H.a Y)) fun a w H F=>xJ (vK F rfl (fun y=>?_) (fun y=>?_))
   ·
    replace d:=zW y d;refine xX (xA 2 F rfl fun a F=>xJ (xP (zZ (qH (qH ?_)))));replace d:=bQ d C;refine zZ (qH ?_);replace d:=bR d A;refine qH (xR F rfl (xZ F rfl) ?_);obtain rfl:=oj d;exact⟨⟨rfl,H.bl⟩,V⟩
   replace d:=zV y d;refine xT (zG (xH (oO (kO F rfl rfl rfl X fun a F=>xA 1 F rfl fun a F=>xJ ?_))));replace d:=aB d C;exact⟨_,Nat.lt_succ_self _,n+1,i,⟨e.1,e.2.2⟩,rfl,d,F.su,H⟩
 rintro a w ⟨rfl,F,H⟩
 have d:=oJ A;refine xH (xX (xA 1 F rfl fun a F=>xJ (xP (xR F rfl (xZ F rfl) ?_))));obtain rfl:=oj d;exact⟨⟨rfl,H.bl⟩,(show xS (-1) by decide)⟩
def zJ (c:List (List Int)) (d:(List Int)→Option Bool):Option Bool:=
 xY (kE c d) fun e=>
 some ((decide (0≤e)))
theorem dM {B:Nat→Prop} {p:List (List Int)} {t:(List Int)→Option Bool} (r:Bool) (f:zJ p t=some r) {n:Value} {e:FuncId} {j:List Value} (d:World) (D:∀ c,B c→c<d.heap.size) (E:Bo B d (Sl 1 (vS 1 xM)) n p) (A:∀ args w,(callFunc e args).run Tryz.prog w= .ok (.enter e args) w) (C:∀ (i:List Int) (r:Bool),t i=some r→∀ W,Below d.heap.size d W→∀ (y:Value),Bo (All W) W (Sl 1 xM) y i→Calls Tryz.prog e ([y]++j:List Value).toArray W (bK (.bool r) W)):Calls Tryz.prog 35 #[n,.func (.func e) #[] j.toArray] d (bK (.bool r) d):=by
 unfold zJ at f
 refine xW (L:=[(0,n),(1,.func (.func e) #[] j.toArray)]) func35 rfl rfl rfl (sc rfl (sc rfl sn)) (fun a F=>?_);have H:=Sep.start D;refine xX (xA 1 F rfl fun a F=>zR (xA 2 F rfl fun a F=>?_));obtain⟨G,I,f⟩:=xB f;refine oKI F rfl call73 rfl H (jP G I _ aA (H.a E) A (fun i r h W l1=>C i r h W (H.bl.trans (l1.mono H.fr.size)))) fun a w H J F=>xA 2 F rfl fun a F=>xJ (xP (xR F rfl (xZ F rfl) ?_));obtain rfl:=oj f;exact⟨rfl,H.bl⟩
def bO (d:Template) (c:Con) (e:List (List Int)) (f h:Int):Option Bool:=
 xY (ix d.rels c.rel) fun i=>
 xY (zJ i.tuples (fun j=>fM j f h (Con.mk c.rel c.scope) e)) fun n=>
 some n
theorem yY {B:Nat→Prop} {t:Template} {y:Con} {A:List (List Int)} {f i:Int} (r:Bool) (d:bO t y A f i=some r) {j:Value} {n:Value} {p:Value} (e:World) (G:∀ c,B c→c<e.heap.size) (I:Bo B e (aY 2 xL) j t) (J:Bo B e (aY 2 qZ) n y) (C:Bo B e (Sl 1 (vS 1 xM)) p A) (D:xS f) (E:xS i):Calls Tryz.prog 137 #[j,n,p,xF f,xF i] e (bK (.bool r) e):=by
 unfold bO at d
 refine xW (L:=[(0,j),(1,n),(2,p),(3,xF f),(4,xF i)]) func137 rfl rfl rfl (sc rfl (sc rfl (sc rfl (sc rfl (sc rfl sn))))) (fun a F=>?_);have H:=Sep.start G;refine xX ?_;obtain⟨V,rfl,X,K⟩:=xL.o I;refine oX F rfl rfl rfl H (fun a w Y H F=>?_);obtain⟨U,rfl,M,N⟩:=qZ.o J;refine oX F rfl rfl rfl H fun a w Z H F=>oX F rfl rfl (jM (H.a C).one) H fun a w b3 H F=>oX F rfl rfl rfl H fun a w b4 H F=>oX F rfl rfl rfl H fun a w b5 H F=>xA 1 F rfl fun a F=>zR (oQ cD F rfl rfl rfl fun a F=>oB kM F rfl rfl (H.b 4 rfl) rfl (fun a F=>?_));refine oQ tD F rfl rfl rfl fun a F=>oB xN F rfl rfl (H.b 3 rfl) rfl (fun a F=>?_);obtain⟨z1,O,d⟩:=xB d;refine oI qP oE F rfl rfl rfl K O fun a p1 P F=>oF (s':=1) fG F rfl rfl P vG.f1 fun a p2 Q F=>olS zD F rfl rfl H.sm Q fun a v4 R F=>wZ F rfl rfl rfl (fun a F=>?_);obtain⟨S,T,d⟩:=xB d;refine oK F rfl call35 rfl H (dM S T _ aA (H.a R) call173 (fun a0 r h W l1 u0 f0=>uV r h W aA f0 ((c1I (H.g 1 rfl).bk D).w l1) ((c1I (H.g 0 rfl).bk E).w l1) ((qZ.b (H.g 3 rfl).bk M (H.a N)).w l1) ((c1S (H.g 2 rfl).bk (H.a C)).w l1))) fun a w H F=>xA 1 F rfl fun a F=>xJ (xP (xR F rfl (xZ F rfl) ?_));obtain rfl:=oj d;exact⟨rfl,H.bl⟩
def cS (f:Template) (d:Instance) (h:List (List Int)) (c:ArcStep):Option Bool:=
 kY (σ:=Bool) (
  xY (ck (d.vars - 1)) fun i=>
  xY (bA c.var 0 i) fun j=>
  if (!j) then  some (.nx true) else  xY (ck ((d.cons.length:Int) - 1)) fun n=>
   xY (bA c.con 0 n) fun p=>
   if (!p) then  some (.nx true) else  xY (ix h c.var) fun t=>
    xY (zQ t c.value) fun y=>
    some (.nx (!y))) fun A=>
 if A then
  some false
 else
  xY (ix d.cons c.con) fun e=>
  kY (σ:=Unit) (
   qW (σ:=Unit) (ρ:=Bool) (fun (B:Nat) (C:Int) (s:Unit)=>
     match s with
     | _=>
     kY (σ:=Bool) (
      if (C==c.var) then  xY (bO (Template.mk f.size f.rels) (Con.mk e.rel e.scope) h (B:Int) c.value) fun D=>
       some (.nx (!D)) else  some (.nx false)) fun E=>
     if E then
      some (.ret true)
     else
      some (.go ())) e.scope 0 ()) fun _=>
  some false
theorem xAt {B:Nat→Prop} {G:Template} {O:Instance} {X:List (List Int)} {e:ArcStep} (r:Bool) (d:cS G O X e=some r) {P:Value} {Q:Value} {t:Value} {R:Value} (f:World) (hN:∀ c,B c→c<f.heap.size) (A0:Bo B f (aY 2 xL) P G) (A1:Bo B f (aY 2 xO) Q O) (Y:Bo B f (Sl 1 (vS 1 xM)) t X) (A3:Bo B f (aY 3 qR) R e):Calls Tryz.prog 99 #[P,Q,t,R] f (bK (.bool r) f):=by
 unfold cS at d
 refine xW (L:=[(0,P),(1,Q),(2,t),(3,R)]) func99 rfl rfl rfl (sc rfl (sc rfl (sc rfl (sc rfl sn)))) (fun a F=>?_);have H:=Sep.start hN;refine xX ?_;obtain⟨S,rfl,i1,h1⟩:=xL.o A0;refine oX F rfl rfl rfl H (fun a w y H F=>?_);obtain⟨aa,rfl,i2,Z⟩:=xO.o A1;refine oX F rfl rfl rfl H (fun a w b2 H F=>?_);obtain⟨rfl,i3,i4,i5⟩:=qR.o A3;refine oX F rfl rfl rfl H fun a w A H F=>xA 1 F rfl fun a F=>xJ (xG (xG ?_));obtain⟨o1,d,ab⟩:=xV d;refine qG (fun a w=>∃ (T:Bool),o1= .nx T∧Sk a 69 [(2,t),(4,vA y),(5,vA b2),(7,vA A),(39,.bool T)]∧Sep [] B f w [bx A [xF e.var,xF e.value,xF e.con] 166,bx b2 [xF O.vars,aa] 29,bx y [xF G.size,S] 26]) ?_ ?_
 ·
  refine xQa H (zH F rfl (fun w l=>oD sX F rfl rfl) fun a F=>qB xN F rfl rfl (H.qb 0 rfl) rfl fun a F=>zH F rfl (fun w l=>oD gP F rfl rfl) fun a F=>qB xN F rfl rfl (H.qb 1 rfl) rfl (fun a F=>?_));obtain⟨z1,c1,d⟩:=xB d;refine zH F rfl (fun w l=>nU F rfl rfl c1) (fun a F=>?_);obtain⟨z2,c2,d⟩:=xB d;refine dQ F rfl mC rfl (fun w w' h l=>l.through h) (fun w l=>dN z2 c2 w aA i3 (show xS (0) by decide) (bD c1)) fun a F=>gU F rfl rfl fun a F=>oM F rfl rfl (fun a F=>?_)
  rcases zC (!z2) with C | C
  ·
   replace d:=zW C d;have F:=F.eb 19 rfl C;refine oV F rfl rfl fun a F=>oV F rfl rfl fun a F=>oV F rfl rfl fun a F=>oV F rfl rfl fun a F=>oV F rfl rfl fun a F=>oV F rfl rfl fun a F=>oV F rfl rfl fun a F=>oV F rfl rfl fun a F=>bH F rfl rfl rfl fun a F=>oM F rfl rfl fun a F=>oV F rfl rfl (fun a F=>?_);refine oV F rfl rfl fun a F=>oV F rfl rfl fun a F=>oV F rfl rfl fun a F=>oV F rfl rfl fun a F=>oV F rfl rfl fun a F=>oV F rfl rfl fun a F=>oV F rfl rfl fun a F=>oV F rfl rfl fun a F=>bH F rfl rfl rfl fun a F=>aF fun w H=>xH ?_;exact⟨true,(kQ d),F.su,H⟩
  replace d:=zV C d;have F:=F.eb 19 rfl C;refine zH F rfl (fun w l=>oD yV F rfl rfl) fun a F=>qB xN F rfl rfl (H.qb 0 rfl) rfl fun a F=>zH F rfl (fun w l=>oD bU F rfl rfl) fun a F=>qB vR F rfl rfl (H.qb 1 rfl) rfl fun a F=>qL oY F rfl rfl Z (fun a i6 F=>?_);obtain⟨z3,c3,d⟩:=xB d;refine zH F rfl (fun w l=>nU F rfl rfl c3) (fun a F=>?_);obtain⟨z4,c4,d⟩:=xB d;refine dQ F rfl mC rfl (fun w w' h l=>l.through h) (fun w l=>dN z4 c4 w aA i5 (show xS (0) by decide) (bD c3)) fun a F=>gU F rfl rfl fun a F=>cG F rfl rfl rfl fun a F=>oM F rfl rfl (fun a F=>?_)
  rcases zC (!z4) with D | D
  ·
   replace d:=zW D d;have F:=F.eb 29 rfl D;refine oV F rfl rfl fun a F=>oV F rfl rfl fun a F=>oV F rfl rfl fun a F=>oV F rfl rfl fun a F=>oV F rfl rfl fun a F=>oV F rfl rfl fun a F=>oV F rfl rfl fun a F=>oV F rfl rfl fun a F=>oV F rfl rfl fun a F=>bH F rfl rfl rfl fun a F=>aF (fun w H=>?_);refine xH ?_;exact⟨true,(kQ d),F.su,H⟩
  replace d:=zV D d;have F:=F.eb 29 rfl D;refine oM F rfl rfl fun a F=>zH F rfl (fun w l=>oD sX F rfl rfl) fun a F=>qB xN F rfl rfl (H.qb 0 rfl) rfl (fun a F=>?_);obtain⟨z5,c5,d⟩:=xB d;refine qI xK xU F rfl rfl rfl Y c5 fun a p1 h3 F=>qlS qE F rfl rfl H.q h3 fun a v5 h4 F=>zH F rfl (fun w l=>oD yX F rfl rfl) fun a F=>qB xN F rfl rfl (H.qb 0 rfl) rfl (fun a F=>?_);obtain⟨z6,ac,d⟩:=xB d;refine dQ F rfl call98 rfl (fun w w' h l=>l.through h) (fun w l=>dC z6 ac w aA ((H.go l).a h4) i4) fun a F=>gU F rfl rfl fun a F=>cG F rfl rfl rfl fun a F=>aF fun w H=>xH ?_;exact⟨(!z6),(kQ d),F.su,H⟩
 rintro a w ⟨T,rfl,F,H⟩
 have d:=oJ ab;refine xH (vK F rfl (fun M=>?_) (fun M=>?_))
 ·
  replace d:=zW M d;refine xX (xA 1 F rfl fun a F=>xJ (xP (qH (xR F rfl (xZ F rfl) ?_))));obtain rfl:=oj d;exact⟨rfl,H.bl⟩
 replace d:=zV M d;refine xT (xH (xX (oQ bU F rfl rfl rfl fun a F=>oB vR F rfl rfl (H.b 1 rfl) rfl fun a F=>oQ yV F rfl rfl rfl fun a F=>oB xN F rfl rfl (H.b 0 rfl) rfl (fun a F=>?_))));obtain⟨j,c6,d⟩:=xB d;refine oI oY zA F rfl rfl rfl Z c6 fun a p2 h5 F=>olA iB zA F rfl rfl H.sm h5 fun a v6 h6 F=>oA zM F rfl rfl H (fun a w J H F=>?_);obtain⟨I,rfl,i7,K⟩:=qZ.o h6;refine gN (vs:=[xF j.rel,I]) zA F rfl rfl rfl H (oc rfl (oc (H.a K).one on)) rfl rfl fun w H=>xJ (xG (xX (oQ gD F rfl rfl rfl fun a F=>oB qE F rfl rfl (H.b 0 rfl) rfl fun a F=>oL xC F rfl rfl K fun a i8 F=>xA 1 F rfl fun a F=>vP ?_)));refine xH ?_;obtain⟨o2,d,V⟩:=xV d;refine qG (fun a w=>o2= .nx ()∧Sk a 69 []∧Sep [] B f w []) ?_ ?_
 ·
  refine qM ?_;obtain⟨ad,ae,d⟩:=vY d;refine vT (fun g a w=>∃ (n:Nat) (p:List Int),(n≤j.scope.length∧j.scope.drop n=p)∧p.length=g∧qW ad p n ()=some o2∧Sk a 69 [(49,xF (n:Int)),(2,t),(4,vA y),(7,vA A),(9,vA J),(47,I),(48,xF (j.scope.length:Int))]∧Sep [] B f w [bx J [xF j.rel,I] 68,bx A [xF e.var,xF e.value,xF e.con] 166,bx y [xF G.size,S] 26]) j.scope.length ?_ ?_
  ·
   exact⟨0,j.scope,⟨Nat.zero_le _,rfl⟩,rfl,d,F.su,(H.s [0,1,3] rfl rfl)⟩
  intro g1 a w ⟨n,p,i,af,d,F,H⟩
  cases p with
  | nil=>
   replace d:=vX d;have q1:=vZ i.1 i.2;have l1:=kW q1;refine xX (xA 1 F rfl fun a F=>xJ (xG (aC F rfl l1 (vU (vV (vV (bC ?_)))))));refine xH ?_;exact⟨(kQ d),F.sub sn,(H.s [] rfl rfl)⟩
  | cons x4 p=>
   subst af;replace i:=qY i.2;have y1:=zI i.2.1;obtain⟨bb,d,W⟩:=vE d;rw[ae] at d;have l1:=zT i.1;refine xX (xA 1 F rfl fun a F=>xJ (xG (aD F rfl l1 (xT (xH (xG ?_))))));have j1:=k64 (Nat.le_of_lt i.1) i8;have m1:=bG i.1 i8;refine qM (xX (xA 1 F rfl fun a F=>oI xC xI F rfl rfl rfl K y1 fun a p3 h8 F=>olI xN F rfl rfl H.sm h8 fun a i9 F=>xA 2 F rfl fun a F=>xJ (xG ?_)));obtain⟨o3,d,ag⟩:=xV d;refine qG (fun a w=>∃ (U:Bool),o3= .nx U∧Sk a 69 [(2,t),(4,vA y),(7,vA A),(9,vA J),(47,I),(48,xF (j.scope.length:Int)),(49,xF (n:Int)),(67,.bool U)]∧Sep [] B f w [bx J [xF j.rel,I] 68,bx A [xF e.var,xF e.value,xF e.con] 166,bx y [xF G.size,S] 26]) ?_ ?_
   ·
    refine oO (xA 1 F rfl fun a F=>oQ sX F rfl rfl rfl fun a F=>oB xN F rfl rfl (H.b 1 rfl) rfl fun a F=>xA 2 F rfl fun a F=>?_)
    rcases zC (x4==e.var) with E | E
    ·
     replace d:=zW E d;have F:=F.eb 58 rfl E;refine lT qU oH F rfl rfl (H.b 2 rfl) rfl rfl fun a F=>lT iB zA F rfl rfl (H.b 0 rfl) rfl rfl fun a F=>xA 2 F rfl fun a F=>oQ yX F rfl rfl rfl fun a F=>oB xN F rfl rfl (H.b 1 rfl) rfl (fun a F=>?_);obtain⟨z8,c7,d⟩:=xB d;refine oK F rfl call137 rfl H (yY z8 c7 _ aA (xL.m i1 (H.a h1)) (qZ.m i7 (H.a K)) (H.a Y) j1 i4) fun a w H F=>xA 2 F rfl fun a F=>xJ ?_;exact⟨(!z8),(kQ d),F.su,H⟩
    replace d:=zV E d;have F:=F.eb 58 rfl E;refine xA 9 F rfl fun a F=>xJ ?_;exact⟨false,(kQ d),F.su,H⟩
   rintro a w ⟨U,rfl,F,H⟩
   have d:=oJ ag;refine xH (vK F rfl (fun N=>?_) (fun N=>?_))
   ·
    replace d:=zW N d;refine xX (xA 1 F rfl fun a F=>xJ (xP (zZ (qH (qH ?_)))));replace d:=bQ d W;refine zZ (qH ?_);replace d:=bR d V;refine qH (xR F rfl (xZ F rfl) ?_);obtain rfl:=oj d;exact⟨rfl,H.bl⟩
   replace d:=zV N d;refine xT (zG (xH (oO (kO F rfl rfl rfl m1 fun a F=>xA 1 F rfl fun a F=>xJ ?_))));replace d:=aB d W;exact⟨_,Nat.lt_succ_self _,n+1,p,⟨i.1,i.2.2⟩,rfl,d,F.su,H⟩
 rintro a w ⟨rfl,F,H⟩
 have d:=oJ V;refine xH (xX (xA 1 F rfl fun a F=>xJ (xP (xR F rfl (xZ F rfl) ?_))));obtain rfl:=oj d;exact⟨rfl,H.bl⟩
def mL (c d:Int):Option Bool:=
 some ((c==d))
theorem xAp {B:Nat→Prop} {d h:Int} (r:Bool) (i:mL d h=some r) {f:Value} (e:World) (j:∀ c,B c→c<e.heap.size) (p:xS d) (n:Bo B e (Pt 1 xM) f h):Calls Tryz.prog 139 #[xF d,f] e (bK (.bool r) e):=by
 unfold mL at i
 refine xW (L:=[(0,xF d),(1,f)]) func139 rfl rfl rfl (sc rfl (sc rfl sn)) (fun a F=>?_);have H:=Sep.start j;refine xX (xA 1 F rfl fun a F=>zR (xA 1 F rfl fun a F=>olI xN F rfl rfl H.sm n fun a t F=>xA 2 F rfl fun a F=>?_));refine xJ (xP (xR F rfl (xZ F rfl) ?_));obtain rfl:=oj i;exact⟨rfl,H.bl⟩
def aI (N:Nat) (i:List Int) (n:Int→Option Bool):Option (List Int):=
 xY (zK i n) fun j=>
 if (j==(-1)) then
  some i
 else
  xY (ck (j+1)) fun y=>
  kY (σ:=Int×Int×(List Int)) (
   lD (σ:=Int×Int×(List Int)) (ρ:=(List Int)) (fun(s:Int×Int×(List Int))=>
     match s with
     | (d,e,c)=>
     if (decide (e<(c.length:Int))) then
      xY (ix c e) fun p=>
      xY (n p) fun A=>
      if (!A) then
       xY (ix c d) fun E=>
       xY (ck (d+1)) fun B=>
       xY (ck (e+1)) fun C=>
       some (.go (B,C,(c.set (d).toNat p)))
      else
       xY (ck (e+1)) fun D=>
       some (.go (d,D,c))
     else
      some (.brk (d,e,c))) N (j,y,i)) fun(f,F,h)=>
  xY (sl h f (h.length:Int)) fun G=>
  xY (sl (h.take (f).toNat++List.replicate (h.length - (f).toNat) 0) 0 f) fun t=>
  some t
theorem lR {B:Nat→Prop} {N:Nat} {K:List Int} {T:Int→Option Bool} (r:(List Int)) (d:aI N K T=some r) {p:Value} {i:FuncId} {A:List Value} {C:List Nat} (e:World) (hN:∀ c,B c→c<e.heap.size) (S0:Sep C B e e [rl 1 xM 2 p K]) (Q:∀ args w,(callFunc i args).run Tryz.prog w= .ok (.enter i args) w) (R:∀ (t:Int) (r:Bool),T t=some r→∀ W,Sm B e W→xS t→Calls Tryz.prog i ([xF t]++A:List Value).toArray W (bK (.bool r) W)):Calls Tryz.prog 138 #[p,.func (.func i) #[] A.toArray] e (Gv (fun v w'=>∃ (S:Value),v=S∧Sep C B e w' [rl 1 xM 2 S r])):=by
 unfold aI at d
 refine xW (L:=[(0,p),(1,.func (.func i) #[] A.toArray)]) func138 rfl rfl rfl (sc rfl (sc rfl sn)) (fun a F=>?_);have H:=S0;refine xX (xA 1 F rfl fun a F=>zR (xA 2 F rfl fun a F=>?_));obtain⟨U,c1,d⟩:=xB d;refine oKI F rfl call86 rfl H (fR U c1 _ aA (H.l 0 rfl) Q (fun t r h W l1=>R t r h W (H.go l1).sm)) fun a w H a6 F=>xA 1 F rfl fun a F=>xJ (xG (xX (xA 2 F rfl fun a F=>xJ ?_)));refine vK F rfl (fun E=>?_) (fun E=>?_)
 ·
  replace d:=zW E d;refine xX (xA 2 F rfl fun a F=>xJ (xP (qH (xR F rfl (xZ F rfl) ?_))));obtain rfl:=oj d;exact⟨_,rfl,p,rfl,H⟩
 replace d:=zV E d;refine xT (xH (xG (xX (xA 1 F rfl fun a F=>?_))));obtain⟨z2,V,d⟩:=xB d;refine fF F rfl rfl rfl V fun a F=>xA 1 F rfl fun a F=>xJ ?_;obtain⟨X,d,a7⟩:=xV d;refine qG (fun a w=>∃ (D M:Int) (O:List Int) (P:Value),X= .nx (D,M,O)∧Sk a 42 [(0,P),(5,xF D)]∧Sep C B e w [rl 1 xM 2 P O]∧xS D∧xS M) ?_ ?_
 ·
  refine qM ?_;obtain⟨a8,a9,d⟩:=iO d;refine vT (fun g a w=>∃ (f y:Int) (j:List Int) (n:Value),lD a8 g (f,y,j)=some X∧Sk a 42 [(0,n),(1,.func (.func i) #[] A.toArray),(5,xF f),(6,xF y)]∧Sep C B e w [rl 1 xM 2 n j]∧xS f∧xS y) N ?_ ?_
  ·
   exact⟨U,z2,K,p,d,F.su,H,a6,(bD V)⟩
  intro g2 a w ⟨f,y,j,n,d,F,H,Y,i2⟩;obtain⟨aq,Z,ar,d,G⟩:=dW d;rw[a9] at d;refine xG (xX (xA 2 F rfl fun a F=>oL xC F rfl rfl (H.l 0 rfl) fun a i3 F=>xA 1 F rfl fun a F=>xJ (vK F rfl (fun I=>?_) (fun I=>?_))))
  ·
   replace d:=zW I d;refine xT (xH (xG (qM (xX (xA 2 F rfl fun a F=>?_)))));obtain⟨z3,c3,d⟩:=xB d;refine oI xC xI F rfl rfl rfl (H.l 0 rfl) c3 fun a p1 h1 F=>olI xN F rfl rfl (Sm.refl _ _) h1 fun a i4 F=>xA 1 F rfl fun a F=>zR (xA 2 F rfl fun a F=>?_);obtain⟨z4,c4,d⟩:=xB d;refine oKV F rfl rfl Q rfl H (R _ z4 c4 _ H.sm i4) fun a w H F=>xA 1 F rfl fun a F=>xJ (vK F rfl (fun J=>?_) (fun J=>?_))
   ·
    replace d:=zW J d;refine xX (xA 3 F rfl fun a F=>?_);obtain⟨z5,c5,d⟩:=xB d;refine oRl xC xI F rfl rfl rfl H 0 rfl c5 (fun a p2 h2 aa F=>?_);have H:=H.lw;refine oS xI F rfl rfl rfl H aa (gX c5) (Eo.int i4) rfl rfl (fun w H=>?_);have H:=H.tl;refine xJ (oO (xA 1 F rfl fun a F=>?_));obtain⟨z6,c6,d⟩:=xB d;refine fF F rfl rfl rfl c6 fun a F=>xA 1 F rfl fun a F=>vP (zG (xH (oO (xA 1 F rfl fun a F=>?_))));obtain⟨z7,c7,d⟩:=xB d;refine fF F rfl rfl rfl c7 fun a F=>xA 1 F rfl fun a F=>xJ ?_;replace d:=aB d G;exact⟨Z,(by omega),z6,z7,(j.set (f).toNat z3),n,d,F.su,H,(bD c6),(bD c7)⟩
   replace d:=zV J d;refine xT (zG (xH (oO (xA 1 F rfl fun a F=>?_))));obtain⟨z8,c8,d⟩:=xB d;refine fF F rfl rfl rfl c8 fun a F=>xA 1 F rfl fun a F=>xJ ?_;replace d:=aB d G;exact⟨Z,(by omega),f,z8,j,n,d,F.su,H,Y,(bD c8)⟩
  replace d:=zV I d;refine vU (vV (vV ?_));replace d:=rT d G;refine bC (xH ?_);exact⟨f,y,j,n,(kQ d),F.su,H,Y,i2⟩
 rintro a w ⟨D,M,O,P,rfl,F,H,i5,i6⟩
 have d:=oJ a7;refine xH (xX (xA 2 F rfl fun a F=>?_));obtain⟨z9,c9,d⟩:=xB d;refine oRtl xC xI F rfl rfl rfl H 0 rfl c9 fun a p3 a5 F=>oRcl xC qQ F rfl rfl H a5 fun w H=>zR (xA 2 F rfl fun a F=>?_);obtain⟨au,ab,d⟩:=xB d;refine oT xC xI F rfl rfl rfl H.lw ab (fun a v3 H F=>?_);have H:=H.tl;refine xA 1 F rfl fun a F=>xJ (xP (xR F rfl (xZ F rfl) ?_));obtain rfl:=oj d;exact⟨_,rfl,v3,rfl,H⟩
def bT (N:Nat) (c:List Int) (d:Int):Option (List Int):=
 xY (zE c) fun e=>
 xY (aI N e (fun f=>mL f d)) fun h=>
 some h
theorem tZ {B:Nat→Prop} {N:Nat} {p:List Int} {e:Int} (r:(List Int)) (d:bT N p e=some r) {i:Value} (f:World) (G:∀ c,B c→c<f.heap.size) (I:Bo B f (Sl 1 xM) i p) (C:xS e):Calls Tryz.prog 100 #[i,xF e] f (Gv (fun v w'=>∃ (n:Value),v=n∧Sep [] B f w' [rl 1 xM 2 n r])):=by
 unfold bT at d
 refine xW (L:=[(0,i),(1,xF e)]) func100 rfl rfl rfl (sc rfl (sc rfl sn)) (fun a F=>?_);have H:=Sep.start G;refine xX (oX F rfl rfl rfl H fun a w b1 H F=>xA 1 F rfl fun a F=>zR (xA 1 F rfl fun a F=>?_));obtain⟨t,J,d⟩:=xB d;refine oG F rfl call66 rfl (cE t J _ aA (H.a I)) (fun a j w ⟨M,V,S⟩ F=>?_);subst j;have H:=H.r1 S n0;refine wZ F rfl rfl rfl (fun a F=>?_);obtain⟨O,rfl⟩:∃ x,x=w:=⟨_,rfl⟩;have X:=H.sm;obtain⟨P,Q,R,e1,H,D,Y⟩:=(H.s [1,0] rfl rfl).fza;have K1:=R.bk;obtain⟨y,T,d⟩:=xB d;obtain⟨X2,U,E⟩:=Sep.lend (K:=[rl 1 xM 2 M t]) (L:=[]) H;refine oG F rfl call138 rfl (lR y T _ H.hN U call139 (fun a0 r h W l1 f0=>xAp r h W aA f0 (Bo.all (Bo.to (c1I (K1.to H.sm) C) l1)))) (fun a j w ⟨A,Z,S⟩ F=>?_);subst j;have H:Sep P Q O w [rl 1 xM 2 A y]:=E S;refine xA 1 F rfl fun a F=>xJ (xP ?_);have H:=(D.1 H (Ns.all ⟨n0,trivial⟩));refine xR F rfl (xZ F rfl) ?_;obtain rfl:=oj d;exact⟨_,rfl,A,rfl,(H.s [1] rfl rfl)⟩
def zP (N:Nat) (C:Int) (D:List Rel) (n:Int) (E:List Con) (d:List (List (List Int))) (e:List Literal) (c:Line):Option (Bool×(List (List (List Int)))×(List Literal)):=
 xY (ck ((d.length:Int) - 1)) fun f=>
 kY (σ:=Bool) (
  if (decide (f<0)) then  some (.nx true) else  xY (ck (n - 1)) fun M=>
   xY (bA c.var 0 M) fun O=>
   some (.nx (!O))) fun P=>
 if P then
  some (false,d,e)
 else
  xY (ix d f) fun h=>
  if (c.kind==1) then
   kY (σ:=Bool) (
    xY (ix h c.var) fun A=>
    xY (zQ A c.value) fun Q=>
    if (!Q) then  some (.nx true) else  some (.nx (decide ((A.length:Int)<2)))) fun R=>
   if R then
    some (false,d,e)
   else
    xY (eO h) fun B=>
    xY (ix B c.var) fun T=>
    xY (ap d ([(B.set (c.var).toNat ([c.value]))])) fun S=>
    xY (ap e ([(Literal.mk c.var c.value)])) fun F=>
    some (true,S,F)
  else
   if (c.kind==2) then
    xY (cS (Template.mk C D) (Instance.mk n E) h (ArcStep.mk c.var c.value c.con)) fun G=>
    if (!G) then
     some (false,d,e)
    else
     xY (ix h c.var) fun H=>
     xY (bT N H c.value) fun I=>
     some (true,(d.set (f).toNat (h.set (c.var).toNat I)),e)
   else
    if (c.kind==3) then
     xY (ix h c.var) fun J=>
     if (decide (0<(J.length:Int))) then
      some (false,d,e)
     else
      xY (ix e f) fun i=>
      xY (sl d 0 f) fun j=>
      xY (sl e 0 f) fun p=>
      if (decide (0<f)) then
       xY (ck (f - 1)) fun t=>
       xY (ix j t) fun y=>
       xY (ix y i.var) fun K=>
       xY (bT N K i.value) fun L=>
       some (true,(j.set (t).toNat (y.set (i.var).toNat L)),p)
      else
       some (true,j,p)
    else
     some (false,d,e)
theorem uX {B:Nat→Prop} {N:Nat} {t:Int} {x0_1:List Rel} {A:Int} {x0_3:List Con} {J:List (List (List Int))} {E:List Literal} {e:Line} (r:Bool×(List (List (List Int)))×(List Literal)) (d:zP N t x0_1 A x0_3 J E e=some r) {f:Nat} {C:Value} {D:Value} {n:Value} {j:Value} {v1:Value} {Y:List Nat} (K:World) (hN:∀ c,B c→c<K.heap.size) (S0:Sep Y B K K [bx f [xF t,C,xF A,D,n,j] 78,rl 1 (vS 1 (vS 1 xM)) 38 n J,rl 2 oU 88 j E]) (cq:xS t) (cr:Bo B K (Sl 2 vG) C x0_1) (cs:xS A) (ct:Bo B K (Sl 2 qZ) D x0_3) (A1:Bo B K (aY 4 qS) v1 e):Calls Tryz.prog 65 #[vA f,v1] K (Gv (fun v w'=>∃ (c3 v2':Value),v= .bool r.1∧Sep Y B K w' [bx f [xF t,C,xF A,D,c3,v2'] 78,rl 1 (vS 1 (vS 1 xM)) 38 c3 r.2.1,rl 2 oU 88 v2' r.2.2])):=by
 unfold zP at d
 refine xW (L:=[(0,vA f),(1,v1)]) func65 rfl rfl rfl (sc rfl (sc rfl sn)) (fun a F=>?_);have H:=S0;refine xX ?_;obtain⟨rfl,i1,U,M,i4⟩:=qS.o A1;refine oX F rfl rfl rfl H fun a w b1 H F=>xA 1 F rfl fun a F=>zR (xA 1 F rfl fun a F=>zB F rfl rfl fun a F=>oQ nO F rfl rfl rfl fun a F=>oB cB F rfl rfl (H.b 1 rfl) rfl fun a F=>oL vW F rfl rfl (H.l 2 rfl) (fun a fd F=>?_));obtain⟨W,c1,d⟩:=xB d;refine gY F rfl rfl rfl c1 fun a F=>xA 1 F rfl fun a F=>xJ (xG (xG ?_));obtain⟨o1,d,cu⟩:=xV d;refine qG (fun a w=>∃ (s1:Bool),o1= .nx s1∧Sk a 180 [(0,vA f),(3,vA b1),(5,xF W),(29,.bool s1)]∧Sep Y B K w [bx b1 [xF e.kind,xF e.var,xF e.value,xF e.con] 45,bx f [xF t,C,xF A,D,n,j] 78,rl 1 (vS 1 (vS 1 xM)) 38 n J,rl 2 oU 88 j E]) ?_ ?_
 ·
  refine xQa H (oM F rfl rfl fun a F=>zH F rfl (fun w l=>tP F rfl rfl) fun a F=>oM F rfl rfl (fun a F=>?_))
  rcases zC (decide (W<0)) with a1 | a1
  ·
   replace d:=zW a1 d;have F:=F.eb 18 rfl a1;refine oV F rfl rfl fun a F=>oV F rfl rfl fun a F=>oV F rfl rfl fun a F=>oV F rfl rfl fun a F=>oV F rfl rfl fun a F=>oV F rfl rfl fun a F=>oV F rfl rfl fun a F=>oV F rfl rfl fun a F=>oV F rfl rfl fun a F=>oV F rfl rfl fun a F=>bH F rfl rfl rfl (fun a F=>?_);refine aF fun w H=>xH ?_;exact⟨true,(kQ d),F.su,H⟩
  replace d:=zV a1 d;have F:=F.eb 18 rfl a1;refine zH F rfl (fun w l=>oD gR F rfl rfl) fun a F=>qB xN F rfl rfl (H.qb 0 rfl) rfl fun a F=>oM F rfl rfl fun a F=>eC F rfl rfl fun a F=>zH F rfl (fun w l=>oD xQt F rfl rfl) fun a F=>zH F rfl (fun w l=>oD gP F rfl rfl) fun a F=>qB xN F rfl rfl (H.qb 1 rfl) rfl (fun a F=>?_);obtain⟨z2,c2,d⟩:=xB d;refine zH F rfl (fun w l=>nU F rfl rfl c2) (fun a F=>?_);obtain⟨z3,cx,d⟩:=xB d;refine dQ F rfl mC rfl (fun w w' h l=>l.through h) (fun w l=>dN z3 cx w aA U (show xS (0) by decide) (bD c2)) fun a F=>gU F rfl rfl fun a F=>cG F rfl rfl rfl fun a F=>aF fun w H=>xH ?_;exact⟨(!z3),(kQ d),F.su,H⟩
 rintro a w ⟨s1,rfl,F,H⟩
 have d:=oJ cu;refine xH (vK F rfl (fun b0=>?_) (fun b0=>?_))
 ·
  replace d:=zW b0 d;refine xX (xA 1 F rfl fun a F=>xJ (xP (qH (xR F rfl (xZ F rfl) ?_))));obtain rfl:=oj d;exact⟨_,rfl,n,j,rfl,(H.s [1,2,3] rfl rfl)⟩
 replace d:=zV b0 d;refine xT (xH (xX (xA 1 F rfl fun a F=>zB F rfl rfl fun a F=>oQ nO F rfl rfl rfl fun a F=>oB cB F rfl rfl (H.b 1 rfl) rfl fun a F=>xA 1 F rfl fun a F=>?_)));obtain⟨z4,Z,d⟩:=xB d;refine oRl vW kF F rfl rfl rfl H 2 rfl Z fun a p1 h1 cy F=>xBn zD F rfl rfl (H.s [2,0,1,3] rfl rfl) cy (aN Z) fun a u39 H hl40 F=>xA 1 F rfl fun a F=>xJ (xG (xX (oQ sR F rfl rfl rfl fun a F=>oB xN F rfl rfl (H.b 2 rfl) rfl fun a F=>vP ?_)));refine xH (qM (xX (xA 2 F rfl fun a F=>xJ (vK F rfl (fun b2=>?_) (fun b2=>?_)))))
 ·
  replace d:=zW b2 d;refine xG (xG ?_);obtain⟨o2,d,cz⟩:=xV d;refine qG (fun a w=>∃ (s2:Bool),o2= .nx s2∧Sk a 180 [(0,vA f),(3,vA b1),(6,u39),(58,.bool s2)]∧Sep Y B K w [ow (V:=(Sl 1 (vS 1 xM))) u39 z4,rl 1 (RS 1 (vS 1 xM)) 38 n ((J.map .inr).set (W).toNat (.inl u39)),bx b1 [xF e.kind,xF e.var,xF e.value,xF e.con] 45,bx f [xF t,C,xF A,D,n,j] 78,rl 2 oU 88 j E]) ?_ ?_
  ·
   refine xQa H (oM F rfl rfl fun a F=>zH F rfl (fun w l=>oD gR F rfl rfl) fun a F=>qB xN F rfl rfl (H.qb 2 rfl) rfl (fun a F=>?_));obtain⟨z5,c4,d⟩:=xB d;refine qI xK xU F rfl rfl rfl (H.o 0 rfl) c4 fun a fe h2 F=>qlS qE F rfl rfl qA h2 fun a v2 h3 F=>zH F rfl (fun w l=>oD mN F rfl rfl) fun a F=>qB xN F rfl rfl (H.qb 2 rfl) rfl (fun a F=>?_);obtain⟨z6,c5,d⟩:=xB d;refine dQ F rfl call98 rfl (fun w w' h l=>l.through h) (fun w l=>dC z6 c5 w aA (h3.w l) M) fun a F=>gU F rfl rfl fun a F=>oM F rfl rfl (fun a F=>?_)
   rcases zC (!z6) with a2 | a2
   ·
    replace d:=zW a2 d;have F:=F.eb 50 rfl a2;refine oV F rfl rfl fun a F=>oV F rfl rfl fun a F=>oV F rfl rfl fun a F=>oV F rfl rfl fun a F=>oV F rfl rfl fun a F=>oV F rfl rfl fun a F=>oV F rfl rfl fun a F=>bH F rfl rfl rfl fun a F=>aF fun w H=>xH ?_;exact⟨true,(kQ d),F.su,H⟩
   replace d:=zV a2 d;have F:=F.eb 50 rfl a2;refine oM F rfl rfl fun a F=>zH F rfl (fun w l=>oD gR F rfl rfl) fun a F=>qB xN F rfl rfl (H.qb 2 rfl) rfl fun a F=>qI xK xU F rfl rfl rfl (H.o 0 rfl) c4 fun a p2 h4 F=>qlS qE F rfl rfl qA h4 fun a v3 h5 F=>qL xC F rfl rfl h5 fun a i5 F=>zH F rfl (fun w l=>tP F rfl rfl) fun a F=>cG F rfl rfl rfl fun a F=>aF fun w H=>xH ?_;exact⟨(decide ((z5.length:Int)<2)),(kQ d),F.su,H⟩
  rintro a w ⟨s2,rfl,F,H⟩
  have d:=oJ cz;refine xH (vK F rfl (fun b3=>?_) (fun b3=>?_))
  ·
   replace d:=zW b3 d;refine xG ?_;have H:=Sep.unfoc0 hl40 (aN Z) H;refine oO (xA 1 F rfl fun a F=>xJ (xP (qH (zZ (qH (xR F rfl (xZ F rfl) ?_))))));obtain rfl:=oj d;exact⟨_,rfl,n,j,rfl,(H.s [2,0,3] rfl rfl)⟩
  replace d:=zV b3 d;refine xT (xH (xX (xA 1 F rfl fun a F=>?_)));obtain⟨I,c6,d⟩:=xB d;refine oG F rfl call30 rfl (tF I c6 _ aA (H.o 0 rfl)) (fun a vv w ⟨v4,ff,S⟩ F=>?_);subst vv;have H:=H.r1 S n0;refine xA 1 F rfl fun a F=>xJ (xG ?_);have H:=Sep.unfoc0 hl40 (aN Z) (H.s [1,2,0,3,4,5] rfl rfl);refine oO (xA 1 F rfl fun a F=>oQ gR F rfl rfl rfl fun a F=>oB xN F rfl rfl (H.b 2 rfl) rfl fun a F=>oQ mN F rfl rfl rfl fun a F=>oB xN F rfl rfl (H.b 2 rfl) rfl fun a F=>iN (R:=xM) (y:=e.value) xC xI qQ rfl rfl F rfl rfl H (Eo.int M) (fun a w v5 H F=>?_));obtain⟨z8,c7,d⟩:=xB d;refine oRl xK xU F rfl rfl rfl H 2 rfl c7 fun a p3 h6 d0 F=>oSl xU F rfl rfl rfl (H.s [2,0,1,3,4,5] rfl rfl) d0 (gX c7) rfl fun w H=>xJ (xG ?_);obtain⟨z9,c8,d⟩:=xB d;obtain⟨fg,c9,d⟩:=xB d;obtain⟨O,rfl⟩:∃ x,x=w:=⟨_,rfl⟩;have fh:=H.sm;obtain⟨P,Q,g1,e1,H,d1,fi⟩:=(H.s [2,0,1,3,4] rfl rfl).fza;have K1:=g1.bk;refine lU H fun w H=>dp (fun G=>∀ (v6 v7:Value) (a:Act) (w:World),Sk a 180 [(0,vA f),(68,vA f),(69,vA f),(76,v6),(80,j),(86,v7)]→Sep P Q O w [rl 1 (vS 1 (vS 1 xM)) 38 v6 z9,rl 2 oU 88 v7 ([(Literal.mk e.var e.value)]),bx f [xF t,C,xF A,D,n,j] 78,rl 2 oU 88 j E]→∀ i,i = #[true,true,true,true,true,true,true,true,true,true,true,true,true,true,true,true,true,true,true,false,false,false,false,false,false,false]→G 7 i a w) ?_ (fun H1=>?_)
  ·
   intro v6 v7 a w F H i p;subst p;refine kT H 19 rfl (oPL (sz:=2) (R:=oU) (z:=(.agg #[xF 0,xF 0])) (bytes:=16) zU (by kernel_rfl) rfl rfl F rfl rfl rfl (H.s [3,1,0,2] rfl rfl) c9 fun a w v8 H F=>xJ ⟨⟨_,H⟩,?_⟩);refine qJ 20 rfl (kK F rfl rfl fun a F=>qJ 21 rfl (qT F rfl (fun w l=>oD nO F rfl rfl) fun a F=>kT H 22 rfl (oW sizeOf75 F rfl rfl rfl (H.s [2,0,1] rfl rfl) ((H.s [2,0,1] rfl rfl).l 2 rfl).one rfl rfl fun w H=>xJ ⟨⟨_,H⟩,?_⟩)));refine qJ 23 rfl (kK F rfl rfl fun a F=>qJ 24 rfl (qT F rfl (fun w l=>oD xDj F rfl rfl) fun a F=>kT H 25 rfl (oW sizeOf76 F rfl rfl rfl H (H.l 1 rfl).one rfl rfl fun w H=>xJ ⟨⟨_,H⟩,?_⟩)));refine zN (xH (xX (xA 1 F rfl fun a F=>xJ (xP (zZ (qH ?_))))));have H:=(d1.1 H (Ns.all ⟨n0,⟨n0,⟨n0,trivial⟩⟩⟩));refine xR F rfl (xZ F rfl) ?_;obtain rfl:=oj d;exact⟨_,rfl,v6,v8,rfl,(H.s [1,3,2] rfl rfl)⟩
  refine dp (fun G=>∀ (v9 ae:Value) (a:Act) (w:World),Sk a 180 [(0,vA f),(68,vA f),(69,vA f),(73,n),(75,v9),(80,j),(86,ae)]→Sep P Q O w [rl 1 (vS 1 (vS 1 xM)) 38 v9 ([(I.set (e.var).toNat ([e.value]))]),rl 2 oU 88 ae ([(Literal.mk e.var e.value)]),rl 1 (vS 1 (vS 1 xM)) 38 n J,bx f [xF t,C,xF A,D,n,j] 78,rl 2 oU 88 j E]→∀ i,i = #[true,true,true,true,true,true,true,true,false,true,true,true,true,true,true,true,true,true,true,false,false,false,false,false,false,false]→G 8 i a w) ?_ (fun H2=>?_)
  ·
   intro v9 ae a w F H i p;subst p;refine kT H 8 rfl (oPL (sz:=1) (R:=(vS 1 (vS 1 xM))) (z:=(vH)) (bytes:=24) vW (by kernel_rfl) rfl rfl F rfl rfl rfl (H.s [2,0,1,3,4] rfl rfl) c8 fun a w d2 H F=>xJ ⟨⟨_,H⟩,?_⟩);exact H1 d2 ae _ _ (F.su) H _ (by kernel_rfl)
  refine dp (fun G=>∀ (af ag:Value) (a:Act) (w:World),Sk a 180 [(0,vA f),(68,vA f),(69,vA f),(76,af),(79,.pointer (some ⟨f,5,none⟩)),(86,ag)]→Sep P Q O w [rl 1 (vS 1 (vS 1 xM)) 38 af z9,rl 2 oU 88 ag ([(Literal.mk e.var e.value)]),bx f [xF t,C,xF A,D,n,j] 78,rl 2 oU 88 j E]→∀ i,i = #[true,true,true,true,true,true,true,true,true,true,true,true,false,true,true,true,true,true,true,false,false,false,false,false,false,false]→G 8 i a w) ?_ (fun H3=>?_)
  ·
   intro af ag a w F H i p;subst p;refine kT H 12 rfl (oB dU F rfl rfl (H.b 2 rfl) rfl fun a F=>xJ ⟨⟨_,H⟩,?_⟩);exact H1 af ag _ _ (F.su) H _ (by kernel_rfl)
  refine dp (fun G=>∀ (ah:Value) (a:Act) (w:World),Sk a 180 [(0,vA f),(68,vA f),(69,vA f),(76,ah),(80,j),(85,(.agg #[xF e.var,xF e.value]))]→Sep P Q O w [rl 1 (vS 1 (vS 1 xM)) 38 ah z9,bx f [xF t,C,xF A,D,n,j] 78,rl 2 oU 88 j E]→∀ i,i = #[true,true,true,true,true,true,true,true,true,true,true,true,true,true,true,true,true,true,false,false,false,false,false,false,false,false]→G 8 i a w) ?_ (fun H4=>?_)
  ·
   intro ah a w F H i p;subst p;refine kT H 18 rfl (iN (R:=oU) (y:=(Literal.mk e.var e.value)) zU kR kP rfl rfl F rfl rfl H (Eo.agg (oU.m U M)) fun a w d3 H F=>xJ ⟨⟨_,H⟩,?_⟩);exact H1 ah d3 _ _ (F.su) (H.s [1,0,2,3] rfl rfl) _ (by kernel_rfl)
  refine dp (fun G=>∀ (ai:Value) (a:Act) (w:World),Sk a 180 [(0,vA f),(68,vA f),(69,vA f),(73,n),(75,ai),(80,j),(85,(.agg #[xF e.var,xF e.value]))]→Sep P Q O w [rl 1 (vS 1 (vS 1 xM)) 38 ai ([(I.set (e.var).toNat ([e.value]))]),rl 1 (vS 1 (vS 1 xM)) 38 n J,bx f [xF t,C,xF A,D,n,j] 78,rl 2 oU 88 j E]→∀ i,i = #[true,true,true,true,true,true,true,true,false,true,true,true,true,true,true,true,true,true,false,false,false,false,false,false,false,false]→G 9 i a w) ?_ (fun H5=>?_)
  ·
   intro ai a w F H i p;subst p;refine aT [8,18] (by kernel_rfl) (by simp) ⟨⟨_,rfl,?_⟩,⟨_,rfl,?_⟩,trivial⟩
   ·
    refine aM H (oPL (sz:=1) (R:=(vS 1 (vS 1 xM))) (z:=(vH)) (bytes:=24) vW (by kernel_rfl) rfl rfl F rfl rfl rfl (H.s [1,0,2,3] rfl rfl) c8 fun a w d4 H F=>xJ ⟨⟨_,H⟩,?_⟩);exact H4 d4 _ _ (F.su) H _ (by kernel_rfl)
   refine aM H (iN (R:=oU) (y:=(Literal.mk e.var e.value)) zU kR kP rfl rfl F rfl rfl H (Eo.agg (oU.m U M)) fun a w d5 H F=>xJ ⟨⟨_,H⟩,?_⟩);exact H2 ai d5 _ _ (F.su) (H.s [1,0,2,3,4] rfl rfl) _ (by kernel_rfl)
  refine dp (fun G=>∀ (aj:Value) (a:Act) (w:World),Sk a 180 [(0,vA f),(68,vA f),(69,vA f),(73,n),(74,v4),(80,j),(86,aj)]→Sep P Q O w [rl 2 oU 88 aj ([(Literal.mk e.var e.value)]),rl 1 (vS 1 xM) 46 v4 (I.set (e.var).toNat ([e.value])),rl 1 (vS 1 (vS 1 xM)) 38 n J,bx f [xF t,C,xF A,D,n,j] 78,rl 2 oU 88 j E]→∀ i,i = #[true,true,true,true,true,true,true,false,false,true,true,true,true,true,true,true,true,true,true,false,false,false,false,false,false,false]→G 9 i a w) ?_ (fun H6=>?_)
  ·
   intro aj a w F H i p;subst p;refine kT H 7 rfl ?_;have H:=(H.s [1,0,2,3,4] rfl rfl).os;refine gB (R:=(vS 1 (vS 1 xM))) (y:=(I.set (e.var).toNat ([e.value]))) vW kF cQ rfl rfl F rfl rfl H El.sl fun a w d6 H F=>xJ ⟨⟨_,H⟩,?_⟩;exact H2 d6 aj _ _ (F.su) H _ (by kernel_rfl)
  refine dp (fun G=>∀ (ak al:Value) (a:Act) (w:World),Sk a 180 [(0,vA f),(68,vA f),(69,vA f),(72,.pointer (some ⟨f,4,none⟩)),(75,ak),(80,j),(86,al)]→Sep P Q O w [rl 1 (vS 1 (vS 1 xM)) 38 ak ([(I.set (e.var).toNat ([e.value]))]),rl 2 oU 88 al ([(Literal.mk e.var e.value)]),rl 1 (vS 1 (vS 1 xM)) 38 n J,bx f [xF t,C,xF A,D,n,j] 78,rl 2 oU 88 j E]→∀ i,i = #[true,true,true,true,true,false,true,true,false,true,true,true,true,true,true,true,true,true,true,false,false,false,false,false,false,false]→G 9 i a w) ?_ (fun H7=>?_)
  ·
   intro ak al a w F H i p;subst p;refine kT H 5 rfl (oB cB F rfl rfl (H.b 3 rfl) rfl fun a F=>xJ ⟨⟨_,H⟩,?_⟩);exact H2 ak al _ _ (F.su) H _ (by kernel_rfl)
  refine dp (fun G=>∀ (am a3:Value) (a:Act) (w:World),Sk a 180 [(0,vA f),(68,vA f),(69,vA f),(73,n),(75,am),(79,.pointer (some ⟨f,5,none⟩)),(86,a3)]→Sep P Q O w [rl 1 (vS 1 (vS 1 xM)) 38 am ([(I.set (e.var).toNat ([e.value]))]),rl 2 oU 88 a3 ([(Literal.mk e.var e.value)]),rl 1 (vS 1 (vS 1 xM)) 38 n J,bx f [xF t,C,xF A,D,n,j] 78,rl 2 oU 88 j E]→∀ i,i = #[true,true,true,true,true,true,true,true,false,true,true,true,false,true,true,true,true,true,true,false,false,false,false,false,false,false]→G 9 i a w) ?_ (fun H8=>?_)
  ·
   intro am a3 a w F H i p;subst p;refine aT [8,12] (by kernel_rfl) (by simp) ⟨⟨_,rfl,?_⟩,⟨_,rfl,?_⟩,trivial⟩
   ·
    refine aM H (oPL (sz:=1) (R:=(vS 1 (vS 1 xM))) (z:=(vH)) (bytes:=24) vW (by kernel_rfl) rfl rfl F rfl rfl rfl (H.s [2,0,1,3,4] rfl rfl) c8 fun a w d7 H F=>xJ ⟨⟨_,H⟩,?_⟩);exact H3 d7 a3 _ _ (F.su) H _ (by kernel_rfl)
   refine aM H (oB dU F rfl rfl (H.b 3 rfl) rfl fun a F=>xJ ⟨⟨_,H⟩,?_⟩);exact H2 am a3 _ _ (F.su) H _ (by kernel_rfl)
  refine dp (fun G=>∀ (a4 a5:Value) (a:Act) (w:World),Sk a 180 [(0,vA f),(68,vA f),(69,vA f),(72,.pointer (some ⟨f,4,none⟩)),(75,a4),(79,.pointer (some ⟨f,5,none⟩)),(86,a5)]→Sep P Q O w [rl 1 (vS 1 (vS 1 xM)) 38 a4 ([(I.set (e.var).toNat ([e.value]))]),rl 2 oU 88 a5 ([(Literal.mk e.var e.value)]),rl 1 (vS 1 (vS 1 xM)) 38 n J,bx f [xF t,C,xF A,D,n,j] 78,rl 2 oU 88 j E]→∀ i,i = #[true,true,true,true,true,false,true,true,false,true,true,true,false,true,true,true,true,true,true,false,false,false,false,false,false,false]→G 10 i a w) ?_ (fun H9=>?_)
  ·
   intro a4 a5 a w F H i p;subst p;refine aT [5,12] (by kernel_rfl) (by simp) ⟨⟨_,rfl,?_⟩,⟨_,rfl,?_⟩,trivial⟩
   ·
    refine aM H (oB cB F rfl rfl (H.b 3 rfl) rfl fun a F=>xJ ⟨⟨_,H⟩,?_⟩);exact H8 a4 a5 _ _ (F.su) H _ (by kernel_rfl)
   refine aM H (oB dU F rfl rfl (H.b 3 rfl) rfl fun a F=>xJ ⟨⟨_,H⟩,?_⟩);exact H7 a4 a5 _ _ (F.su) H _ (by kernel_rfl)
  refine dp (fun G=>∀ (a6:Value) (a:Act) (w:World),Sk a 180 [(0,vA f),(68,vA f),(69,vA f),(73,n),(74,v4),(79,.pointer (some ⟨f,5,none⟩)),(86,a6)]→Sep P Q O w [rl 2 oU 88 a6 ([(Literal.mk e.var e.value)]),rl 1 (vS 1 xM) 46 v4 (I.set (e.var).toNat ([e.value])),rl 1 (vS 1 (vS 1 xM)) 38 n J,bx f [xF t,C,xF A,D,n,j] 78,rl 2 oU 88 j E]→∀ i,i = #[true,true,true,true,true,true,true,false,false,true,true,true,false,true,true,true,true,true,true,false,false,false,false,false,false,false]→G 10 i a w) ?_ (fun H10=>?_)
  ·
   intro a6 a w F H i p;subst p;refine aT [7,12] (by kernel_rfl) (by simp) ⟨⟨_,rfl,?_⟩,⟨_,rfl,?_⟩,trivial⟩
   ·
    refine aM H ?_;have H:=(H.s [1,0,2,3,4] rfl rfl).os;refine gB (R:=(vS 1 (vS 1 xM))) (y:=(I.set (e.var).toNat ([e.value]))) vW kF cQ rfl rfl F rfl rfl H El.sl fun a w d8 H F=>xJ ⟨⟨_,H⟩,?_⟩;exact H8 d8 a6 _ _ (F.su) H _ (by kernel_rfl)
   refine aM H (oB dU F rfl rfl (H.b 3 rfl) rfl fun a F=>xJ ⟨⟨_,H⟩,?_⟩);exact H6 a6 _ _ (F.su) H _ (by kernel_rfl)
  refine dp (fun G=>∀ (a:Act) (w:World),Sk a 180 [(0,vA f),(68,vA f),(69,vA f),(73,n),(74,v4),(80,j),(85,(.agg #[xF e.var,xF e.value]))]→Sep P Q O w [rl 1 (vS 1 xM) 46 v4 (I.set (e.var).toNat ([e.value])),rl 1 (vS 1 (vS 1 xM)) 38 n J,bx f [xF t,C,xF A,D,n,j] 78,rl 2 oU 88 j E]→∀ i,i = #[true,true,true,true,true,true,true,false,false,true,true,true,true,true,true,true,true,true,false,false,false,false,false,false,false,false]→G 10 i a w) ?_ (fun H11=>?_)
  ·
   intro a w F H i p;subst p;refine aT [7,18] (by kernel_rfl) (by simp) ⟨⟨_,rfl,?_⟩,⟨_,rfl,?_⟩,trivial⟩
   ·
    refine aM H ?_;have H:=H.os;refine gB (R:=(vS 1 (vS 1 xM))) (y:=(I.set (e.var).toNat ([e.value]))) vW kF cQ rfl rfl F rfl rfl H El.sl fun a w d9 H F=>xJ ⟨⟨_,H⟩,?_⟩;exact H5 d9 _ _ (F.su) H _ (by kernel_rfl)
   refine aM H (iN (R:=oU) (y:=(Literal.mk e.var e.value)) zU kR kP rfl rfl F rfl rfl H (Eo.agg (oU.m U M)) fun a w da H F=>xJ ⟨⟨_,H⟩,?_⟩);exact H6 da _ _ (F.su) H _ (by kernel_rfl)
  refine dp (fun G=>∀ (a7:Value) (a:Act) (w:World),Sk a 180 [(0,vA f),(68,vA f),(69,vA f),(72,.pointer (some ⟨f,4,none⟩)),(75,a7),(80,j),(85,(.agg #[xF e.var,xF e.value]))]→Sep P Q O w [rl 1 (vS 1 (vS 1 xM)) 38 a7 ([(I.set (e.var).toNat ([e.value]))]),rl 1 (vS 1 (vS 1 xM)) 38 n J,bx f [xF t,C,xF A,D,n,j] 78,rl 2 oU 88 j E]→∀ i,i = #[true,true,true,true,true,false,true,true,false,true,true,true,true,true,true,true,true,true,false,false,false,false,false,false,false,false]→G 10 i a w) ?_ (fun H12=>?_)
  ·
   intro a7 a w F H i p;subst p;refine aT [5,18] (by kernel_rfl) (by simp) ⟨⟨_,rfl,?_⟩,⟨_,rfl,?_⟩,trivial⟩
   ·
    refine aM H (oB cB F rfl rfl (H.b 2 rfl) rfl fun a F=>xJ ⟨⟨_,H⟩,?_⟩);exact H5 a7 _ _ (F.su) H _ (by kernel_rfl)
   refine aM H (iN (R:=oU) (y:=(Literal.mk e.var e.value)) zU kR kP rfl rfl F rfl rfl H (Eo.agg (oU.m U M)) fun a w db H F=>xJ ⟨⟨_,H⟩,?_⟩);exact H7 a7 db _ _ (F.su) (H.s [1,0,2,3,4] rfl rfl) _ (by kernel_rfl)
  refine dp (fun G=>∀ (a8:Value) (a:Act) (w:World),Sk a 180 [(0,vA f),(68,vA f),(69,vA f),(73,n),(75,a8),(79,.pointer (some ⟨f,5,none⟩)),(85,(.agg #[xF e.var,xF e.value]))]→Sep P Q O w [rl 1 (vS 1 (vS 1 xM)) 38 a8 ([(I.set (e.var).toNat ([e.value]))]),rl 1 (vS 1 (vS 1 xM)) 38 n J,bx f [xF t,C,xF A,D,n,j] 78,rl 2 oU 88 j E]→∀ i,i = #[true,true,true,true,true,true,true,true,false,true,true,true,false,true,true,true,true,true,false,false,false,false,false,false,false,false]→G 10 i a w) ?_ (fun H13=>?_)
  ·
   intro a8 a w F H i p;subst p;refine aT [8,12,18] (by kernel_rfl) (by simp) ⟨⟨_,rfl,?_⟩,⟨_,rfl,?_⟩,⟨_,rfl,?_⟩,trivial⟩
   ·
    refine aM H (oPL (sz:=1) (R:=(vS 1 (vS 1 xM))) (z:=(vH)) (bytes:=24) vW (by kernel_rfl) rfl rfl F rfl rfl rfl (H.s [1,0,2,3] rfl rfl) c8 fun a w v35 H F=>xJ ⟨⟨_,H⟩,?_⟩);refine aT [12,18] (by kernel_rfl) (by simp) ⟨⟨_,rfl,?_⟩,⟨_,rfl,?_⟩,trivial⟩
    ·
     refine aM H (oB dU F rfl rfl (H.b 1 rfl) rfl fun a F=>xJ ⟨⟨_,H⟩,?_⟩);exact H4 v35 _ _ (F.su) H _ (by kernel_rfl)
    refine aM H (iN (R:=oU) (y:=(Literal.mk e.var e.value)) zU kR kP rfl rfl F rfl rfl H (Eo.agg (oU.m U M)) fun a w dc H F=>xJ ⟨⟨_,H⟩,?_⟩);exact H3 v35 dc _ _ (F.su) (H.s [1,0,2,3] rfl rfl) _ (by kernel_rfl)
   ·
    refine aM H (oB dU F rfl rfl (H.b 2 rfl) rfl fun a F=>xJ ⟨⟨_,H⟩,?_⟩);exact H5 a8 _ _ (F.su) H _ (by kernel_rfl)
   refine aM H (iN (R:=oU) (y:=(Literal.mk e.var e.value)) zU kR kP rfl rfl F rfl rfl H (Eo.agg (oU.m U M)) fun a w dd H F=>xJ ⟨⟨_,H⟩,?_⟩);exact H8 a8 dd _ _ (F.su) (H.s [1,0,2,3,4] rfl rfl) _ (by kernel_rfl)
  refine dp (fun G=>∀ (a9:Value) (a:Act) (w:World),Sk a 180 [(0,vA f),(68,vA f),(69,vA f),(72,.pointer (some ⟨f,4,none⟩)),(74,v4),(80,j),(86,a9)]→Sep P Q O w [rl 2 oU 88 a9 ([(Literal.mk e.var e.value)]),rl 1 (vS 1 xM) 46 v4 (I.set (e.var).toNat ([e.value])),rl 1 (vS 1 (vS 1 xM)) 38 n J,bx f [xF t,C,xF A,D,n,j] 78,rl 2 oU 88 j E]→∀ i,i = #[true,true,true,true,true,false,true,false,false,true,true,true,true,true,true,true,true,true,true,false,false,false,false,false,false,false]→G 10 i a w) ?_ (fun ca=>?_)
  ·
   intro a9 a w F H i p;subst p;refine aT [5,7] (by kernel_rfl) (by simp) ⟨⟨_,rfl,?_⟩,⟨_,rfl,?_⟩,trivial⟩
   ·
    refine aM H (oB cB F rfl rfl (H.b 3 rfl) rfl fun a F=>xJ ⟨⟨_,H⟩,?_⟩);exact H6 a9 _ _ (F.su) H _ (by kernel_rfl)
   refine aM H ?_;have H:=(H.s [1,0,2,3,4] rfl rfl).os;refine gB (R:=(vS 1 (vS 1 xM))) (y:=(I.set (e.var).toNat ([e.value]))) vW kF cQ rfl rfl F rfl rfl H El.sl fun a w de H F=>xJ ⟨⟨_,H⟩,?_⟩;exact H7 de a9 _ _ (F.su) H _ (by kernel_rfl)
  refine qV 0 rfl (qO F rfl rfl fun a F=>qV 1 rfl (qO F rfl rfl fun a F=>qV 2 rfl (qO F rfl rfl fun a F=>qJ 3 rfl (kK F rfl rfl fun a F=>qJ 4 rfl (qT F rfl (fun w l=>oD nO F rfl rfl) fun a F=>qV 6 rfl ?_)))));refine qO F rfl rfl fun a F=>qV 9 rfl (qO F rfl rfl fun a F=>qJ 10 rfl (kK F rfl rfl fun a F=>qJ 11 rfl (qT F rfl (fun w l=>oD xDj F rfl rfl) fun a F=>qJ 13 rfl (qT F rfl (fun w l=>oD gR F rfl rfl) fun a F=>qJ 14 rfl (vB xN F rfl rfl (K1.v H.sm) rfl (fun a F=>?_))))));refine qJ 15 rfl (qT F rfl (fun w l=>oD mN F rfl rfl) fun a F=>qJ 16 rfl (vB xN F rfl rfl (K1.v H.sm) rfl fun a F=>qJ 17 rfl (qT F rfl (fun w l=>pF pV kP (fun w=>by simp [xI];rfl) F rfl rfl rfl rfl (oc rfl (oc rfl on)) rfl rfl) fun a F=>aT [5,7,12,18] (by kernel_rfl) (by simp) ⟨⟨_,rfl,?_⟩,⟨_,rfl,?_⟩,⟨_,rfl,?_⟩,⟨_,rfl,?_⟩,trivial⟩)))
  ·
   refine aM H (oB cB F rfl rfl (H.b 2 rfl) rfl fun a F=>xJ ⟨⟨_,H⟩,?_⟩);refine aT [7,12,18] (by kernel_rfl) (by simp) ⟨⟨_,rfl,?_⟩,⟨_,rfl,?_⟩,⟨_,rfl,?_⟩,trivial⟩
   ·
    refine aM H ?_;have H:=H.os;refine gB (R:=(vS 1 (vS 1 xM))) (y:=(I.set (e.var).toNat ([e.value]))) vW kF cQ rfl rfl F rfl rfl H El.sl fun a w df H F=>xJ ⟨⟨_,H⟩,?_⟩;exact H13 df _ _ (F.su) H _ (by kernel_rfl)
   ·
    refine aM H (oB dU F rfl rfl (H.b 2 rfl) rfl fun a F=>xJ ⟨⟨_,H⟩,?_⟩);exact H11 _ _ (F.su) H _ (by kernel_rfl)
   refine aM H (iN (R:=oU) (y:=(Literal.mk e.var e.value)) zU kR kP rfl rfl F rfl rfl H (Eo.agg (oU.m U M)) fun a w dg H F=>xJ ⟨⟨_,H⟩,?_⟩);exact H10 dg _ _ (F.su) H _ (by kernel_rfl)
  ·
   refine aM H ?_;have H:=H.os;refine gB (R:=(vS 1 (vS 1 xM))) (y:=(I.set (e.var).toNat ([e.value]))) vW kF cQ rfl rfl F rfl rfl H El.sl fun a w b4 H F=>xJ ⟨⟨_,H⟩,?_⟩;refine aT [5,12,18] (by kernel_rfl) (by simp) ⟨⟨_,rfl,?_⟩,⟨_,rfl,?_⟩,⟨_,rfl,?_⟩,trivial⟩
   ·
    refine aM H (oB cB F rfl rfl (H.b 2 rfl) rfl fun a F=>xJ ⟨⟨_,H⟩,?_⟩);exact H13 b4 _ _ (F.su) H _ (by kernel_rfl)
   ·
    refine aM H (oB dU F rfl rfl (H.b 2 rfl) rfl fun a F=>xJ ⟨⟨_,H⟩,?_⟩);exact H12 b4 _ _ (F.su) H _ (by kernel_rfl)
   refine aM H (iN (R:=oU) (y:=(Literal.mk e.var e.value)) zU kR kP rfl rfl F rfl rfl H (Eo.agg (oU.m U M)) fun a w dh H F=>xJ ⟨⟨_,H⟩,?_⟩);exact H9 b4 dh _ _ (F.su) (H.s [1,0,2,3,4] rfl rfl) _ (by kernel_rfl)
  ·
   refine aM H (oB dU F rfl rfl (H.b 2 rfl) rfl fun a F=>xJ ⟨⟨_,H⟩,?_⟩);refine aT [5,7,18] (by kernel_rfl) (by simp) ⟨⟨_,rfl,?_⟩,⟨_,rfl,?_⟩,⟨_,rfl,?_⟩,trivial⟩
   ·
    refine aM H (oB cB F rfl rfl (H.b 2 rfl) rfl fun a F=>xJ ⟨⟨_,H⟩,?_⟩);exact H11 _ _ (F.su) H _ (by kernel_rfl)
   ·
    refine aM H ?_;have H:=H.os;refine gB (R:=(vS 1 (vS 1 xM))) (y:=(I.set (e.var).toNat ([e.value]))) vW kF cQ rfl rfl F rfl rfl H El.sl fun a w di H F=>xJ ⟨⟨_,H⟩,?_⟩;exact H12 di _ _ (F.su) H _ (by kernel_rfl)
   refine aM H (iN (R:=oU) (y:=(Literal.mk e.var e.value)) zU kR kP rfl rfl F rfl rfl H (Eo.agg (oU.m U M)) fun a w dj H F=>xJ ⟨⟨_,H⟩,?_⟩);exact ca dj _ _ (F.su) H _ (by kernel_rfl)
  refine aM H (iN (R:=oU) (y:=(Literal.mk e.var e.value)) zU kR kP rfl rfl F rfl rfl H (Eo.agg (oU.m U M)) fun a w b5 H F=>xJ ⟨⟨_,H⟩,?_⟩);refine aT [5,7,12] (by kernel_rfl) (by simp) ⟨⟨_,rfl,?_⟩,⟨_,rfl,?_⟩,⟨_,rfl,?_⟩,trivial⟩
  ·
   refine aM H (oB cB F rfl rfl (H.b 3 rfl) rfl fun a F=>xJ ⟨⟨_,H⟩,?_⟩);exact H10 b5 _ _ (F.su) H _ (by kernel_rfl)
  ·
   refine aM H ?_;have H:=(H.s [1,0,2,3,4] rfl rfl).os;refine gB (R:=(vS 1 (vS 1 xM))) (y:=(I.set (e.var).toNat ([e.value]))) vW kF cQ rfl rfl F rfl rfl H El.sl fun a w dk H F=>xJ ⟨⟨_,H⟩,?_⟩;exact H9 dk b5 _ _ (F.su) H _ (by kernel_rfl)
  refine aM H (oB dU F rfl rfl (H.b 3 rfl) rfl fun a F=>xJ ⟨⟨_,H⟩,?_⟩);exact ca b5 _ _ (F.su) H _ (by kernel_rfl)
 replace d:=zV b2 d;refine xX (xA 2 F rfl fun a F=>xJ (vK F rfl (fun b6=>?_) (fun b6=>?_)))
 ·
  replace d:=zW b6 d;refine xG (xG (xQa H (oM F rfl rfl fun a F=>eC F rfl rfl fun a F=>zH F rfl (fun w l=>oD xUb F rfl rfl) fun a F=>qBA qU oH F rfl rfl (H.qb 3 rfl) rfl rfl fun a F=>oM F rfl rfl fun a F=>eC F rfl rfl fun a F=>zH F rfl (fun w l=>oD xQt F rfl rfl) fun a F=>qBA vO oZ F rfl rfl (H.qb 3 rfl) rfl rfl (fun a F=>?_))));refine oM F rfl rfl fun a F=>zH F rfl (fun w l=>oD gR F rfl rfl) fun a F=>qB xN F rfl rfl (H.qb 2 rfl) rfl fun a F=>zH F rfl (fun w l=>oD mN F rfl rfl) fun a F=>qB xN F rfl rfl (H.qb 2 rfl) rfl fun a F=>zH F rfl (fun w l=>oD tV F rfl rfl) fun a F=>qB xN F rfl rfl (H.qb 2 rfl) rfl fun a F=>zH F rfl (fun w l=>pF nS iQ (fun w=>by simp [xI];rfl) F rfl rfl rfl rfl (oc rfl (oc rfl (oc rfl on))) rfl rfl) (fun a F=>?_);obtain⟨dl,dm,d⟩:=xB d;refine dQ F rfl call99 rfl (fun w w' h l=>l.through h) (fun w l=>xAt dl dm w aA (xL.m cq ((H.go l).a cr)) (xO.m cs ((H.go l).a ct)) ((H.go l).o 0 rfl) (qR.m U M i4)) fun a F=>gU F rfl rfl fun a F=>aF fun w H=>xH (vK F rfl (fun b7=>?_) (fun b7=>?_))
  ·
   replace d:=zW b7 d;refine xG ?_;have H:=Sep.unfoc0 hl40 (aN Z) H;refine oO (xA 1 F rfl fun a F=>xJ (xP (qH (zZ (qH (xR F rfl (xZ F rfl) ?_))))));obtain rfl:=oj d;exact⟨_,rfl,n,j,rfl,(H.s [2,0,3] rfl rfl)⟩
  replace d:=zV b7 d;refine xT (xH (xG ?_));obtain⟨fj,b8,d⟩:=xB d;obtain⟨dq,dr,d⟩:=xB d;obtain⟨w2,rfl⟩:∃ x,x=w:=⟨_,rfl⟩;have fk:=H.sm;obtain⟨X2,N2,g2,e2,H,ds,fl⟩:=(H.s [2,0,1,3,4] rfl rfl).fza;have K2:=g2.bk;refine lU H fun w H=>qV 0 rfl (qO F rfl rfl fun a F=>qJ 1 rfl (qT F rfl (fun w l=>oD gR F rfl rfl) fun a F=>qJ 2 rfl (vB xN F rfl rfl (K2.v H.sm) rfl fun a F=>qV 3 rfl (qO F rfl rfl fun a F=>qJ 4 rfl (qT F rfl (fun w l=>oD gR F rfl rfl) (fun a F=>?_))))));refine qJ 5 rfl (vB xN F rfl rfl (K2.v H.sm) rfl fun a F=>qJ 8 rfl (qT F rfl (fun w l=>oD mN F rfl rfl) fun a F=>qJ 9 rfl (vB xN F rfl rfl (K2.v H.sm) rfl fun a F=>kT H 6 rfl (oI xK xU F rfl rfl rfl (H.o 0 rfl) b8 fun a p4 h7 F=>xJ ⟨⟨_,H⟩,?_⟩))));refine kT H 7 rfl (olS qE F rfl rfl (Sm.refl _ _) h7 fun a fm h8 F=>xJ ⟨⟨_,H⟩,?_⟩);refine kT H 10 rfl (oG F rfl call100 rfl (tZ dq dr _ aA h8 M) (fun a vv w ⟨fn,fo,S⟩ F=>?_));subst vv;have H:=H.r1 S n0;refine xJ ⟨⟨_,H⟩,?_⟩;refine kT H 11 rfl (oRo xK xU F rfl rfl rfl H 1 rfl b8 fun a p5 h9 du F=>xJ ⟨⟨_,H⟩,?_⟩);refine kT H 12 rfl (xIm xU F rfl rfl rfl (H.s [1,0,2,3,4] rfl rfl) du (gX b8) rfl (fun w H=>?_));have H:=Sep.unfoc hl40 H;refine xJ ⟨⟨_,H⟩,?_⟩;refine zN (xH (xX (xA 1 F rfl fun a F=>xJ (xP (zZ (qH ?_))))));have H:=(ds.1 H (Ns.all ⟨n0,⟨n0,⟨n0,trivial⟩⟩⟩));refine xR F rfl (xZ F rfl) ?_;obtain rfl:=oj d;exact⟨_,rfl,n,j,rfl,(H.s [2,1,3] rfl rfl)⟩
 replace d:=zV b6 d;refine xX (xA 2 F rfl fun a F=>xJ (vK F rfl (fun b9=>?_) (fun b9=>?_)))
 ·
  replace d:=zW b9 d;refine xG (xX (xA 1 F rfl fun a F=>oQ gR F rfl rfl rfl fun a F=>oB xN F rfl rfl (H.b 2 rfl) rfl (fun a F=>?_)));obtain⟨fp,dw,d⟩:=xB d;refine oI xK xU F rfl rfl rfl (H.o 0 rfl) dw fun a p6 dx F=>olS qE F rfl rfl (Sm.refl _ _) dx fun a fq dy F=>oL xC F rfl rfl dy fun a i6 F=>xA 1 F rfl fun a F=>xJ (vK F rfl (fun ba=>?_) (fun ba=>?_))
  ·
   replace d:=zW ba d;refine xG ?_;have H:=Sep.unfoc0 hl40 (aN Z) H;refine oO (xA 1 F rfl fun a F=>xJ (xP (qH (zZ (qH (xR F rfl (xZ F rfl) ?_))))));obtain rfl:=oj d;exact⟨_,rfl,n,j,rfl,(H.s [2,0,3] rfl rfl)⟩
  replace d:=zV ba d;refine xT (xH (xG ?_));have H:=Sep.unfoc0 hl40 (aN Z) H;refine oO (xA 1 F rfl fun a F=>zB F rfl rfl fun a F=>oQ xDj F rfl rfl rfl fun a F=>oB dU F rfl rfl (H.b 2 rfl) rfl fun a F=>xA 1 F rfl fun a F=>?_);obtain⟨T,dz,d⟩:=xB d;obtain⟨w3,rfl⟩:∃ x,x=w:=⟨_,rfl⟩;have fs:=H.sm;obtain⟨X3,N3,g3,e3,H,e0,ft⟩:=(H.s [3,0,1,2] rfl rfl).fza;have h12:=g3.ld;refine oI zU kR F rfl rfl rfl h12 dz fun a p7 h13 F=>olA isAgg88 kR F rfl rfl H.sm h13 fun a fu h14 F=>oA kP F rfl rfl H (fun a w X H F=>?_);obtain⟨rfl,i7,i8⟩:=oU.o h14;refine gN (vs:=[xF T.var,xF T.value]) kR F rfl rfl rfl H (oc rfl (oc rfl on)) rfl rfl fun w H=>xJ (xG ?_);have H:=(e0.1 H (Ns.all ⟨n0,⟨n0,⟨n0,⟨n0,trivial⟩⟩⟩⟩));obtain⟨bb,bc,d⟩:=xB d;obtain⟨be,an,d⟩:=xB d;refine lU H fun w H=>dp (fun G=>∀ (aa ab:Value) (a:Act) (w:World),Sk a 180 [(0,vA f),(5,xF W),(8,vA X),(141,vA f),(153,ab)]→Sep Y B K w [rl 1 (vS 1 (vS 1 xM)) 38 aa bb,rl 2 oU 88 ab be,bx f [xF t,C,xF A,D,aa,j] 78,bx X [xF T.var,xF T.value] 88]→∀ i,i = #[true,true,true,true,true,true,true,true,true,true,true,true,true,true,true,true,true,false,false,false]→G 3 i a w) ?_ (fun cb=>?_)
  ·
   intro aa ab a w F H i p;subst p;refine qJ 17 rfl (kK F rfl rfl fun a F=>qJ 18 rfl (qT F rfl (fun w l=>oD xDj F rfl rfl) fun a F=>kT H 19 rfl (oW sizeOf76 F rfl rfl rfl (H.s [2,0,1,3] rfl rfl) ((H.s [2,0,1,3] rfl rfl).l 2 rfl).one rfl rfl fun w H=>xJ ⟨⟨_,H⟩,?_⟩)));refine zN (xH (xG (xX (xA 2 F rfl fun a F=>xJ (vK F rfl (fun az=>?_) (fun az=>?_))))))
   ·
    replace d:=zW az d;refine xX (xA 1 F rfl fun a F=>zB F rfl rfl fun a F=>oQ nO F rfl rfl rfl fun a F=>oB cB F rfl rfl (H.b 0 rfl) rfl fun a F=>xA 1 F rfl fun a F=>?_);obtain⟨fv,c17,d⟩:=xB d;refine gY F rfl rfl rfl c17 (fun a F=>?_);obtain⟨fw,cc,d⟩:=xB d;refine oRl vW kF F rfl rfl rfl H 1 rfl cc fun a p8 fy e5 F=>xBn zD F rfl rfl (H.s [1,0,2,3] rfl rfl) e5 (aN cc) fun a fc H hl334 F=>xA 1 F rfl fun a F=>xJ ?_;obtain⟨g0,bf,d⟩:=xB d;obtain⟨e6,e7,d⟩:=xB d;obtain⟨w4,rfl⟩:∃ x,x=w:=⟨_,rfl⟩;have sm4:=H.sm;obtain⟨X4,N4,g4,e4,H,e8,ab4⟩:=(H.s [4,0,1,2,3] rfl rfl).fza;have K3:=g4.bk;refine lU H fun w H=>qV 0 rfl (qO F rfl rfl fun a F=>qJ 1 rfl (qT F rfl (fun w l=>oD xHm F rfl rfl) fun a F=>qJ 2 rfl (vB xN F rfl rfl (K3.v H.sm) rfl fun a F=>qV 3 rfl (qO F rfl rfl fun a F=>qJ 4 rfl (qT F rfl (fun w l=>oD xHm F rfl rfl) (fun a F=>?_))))));refine qJ 5 rfl (vB xN F rfl rfl (K3.v H.sm) rfl fun a F=>qJ 8 rfl (qT F rfl (fun w l=>oD xPb F rfl rfl) fun a F=>qJ 9 rfl (vB xN F rfl rfl (K3.v H.sm) rfl fun a F=>kT H 6 rfl (oI xK xU F rfl rfl rfl (H.o 0 rfl) bf fun a p9 e9 F=>xJ ⟨⟨_,H⟩,?_⟩))));refine kT H 7 rfl (olS qE F rfl rfl (Sm.refl _ _) e9 fun a v54 ea F=>xJ ⟨⟨_,H⟩,?_⟩);refine kT H 10 rfl (oG F rfl call100 rfl (tZ e6 e7 _ aA ea i8) (fun a vv w ⟨v55,g5,S⟩ F=>?_));subst vv;have H:=H.r1 S n0;refine xJ ⟨⟨_,H⟩,?_⟩;refine kT H 11 rfl (oRo xK xU F rfl rfl rfl H 1 rfl bf fun a g6 g7 ec F=>xJ ⟨⟨_,H⟩,?_⟩);refine kT H 12 rfl (xIm xU F rfl rfl rfl (H.s [1,0,2,3,4] rfl rfl) ec (gX bf) rfl (fun w H=>?_));have H:=Sep.unfoc hl334 H;refine xJ ⟨⟨_,H⟩,?_⟩;refine zN (xH (xX (xA 1 F rfl fun a F=>xJ (xP (zZ (qH ?_))))));have H:=(e8.1 H (Ns.all ⟨n0,⟨n0,⟨n0,trivial⟩⟩⟩));refine xR F rfl (xZ F rfl) ?_;obtain rfl:=oj d;exact⟨_,rfl,aa,ab,rfl,(H.s [2,1,3] rfl rfl)⟩
   replace d:=zV az d;refine xT (xH (xX (xA 1 F rfl fun a F=>xJ (xP (zZ (qH (xR F rfl (xZ F rfl) ?_)))))));obtain rfl:=oj d;exact⟨_,rfl,aa,ab,rfl,(H.s [0,1,2] rfl rfl)⟩
  refine dp (fun G=>∀ (ao aq:Value) (a:Act) (w:World),Sk a 180 [(0,vA f),(5,xF W),(8,vA X),(141,vA f),(147,ao),(153,aq),(155,.pointer (some ⟨f,4,none⟩))]→Sep Y B K w [rl 1 (vS 1 (vS 1 xM)) 38 ao bb,rl 2 oU 88 aq be,bx X [xF T.var,xF T.value] 88,bx f [xF t,C,xF A,D,n,j] 78]→∀ i,i = #[true,true,true,true,true,true,true,true,true,true,true,true,true,true,true,true,false,false,false,false]→G 4 i a w) ?_ (fun cd=>?_)
  ·
   intro ao aq a w F H i p;subst p;refine kT H 16 rfl (oW sizeOf75 F rfl rfl rfl (H.s [3,0,1,2] rfl rfl) ((H.s [3,0,1,2] rfl rfl).l 1 rfl).one rfl rfl fun w H=>xJ ⟨⟨_,H⟩,?_⟩);exact cb ao aq _ _ (F.su) (H.s [1,2,0,3] rfl rfl) _ (by kernel_rfl)
  refine dp (fun G=>∀ (ac:Value) (a:Act) (w:World),Sk a 180 [(0,vA f),(5,xF W),(8,vA X),(140,vA f),(141,vA f),(147,ac),(151,j),(152,xF W)]→Sep Y B K w [rl 1 (vS 1 (vS 1 xM)) 38 ac bb,rl 2 oU 88 j E,bx X [xF T.var,xF T.value] 88,bx f [xF t,C,xF A,D,n,j] 78]→∀ i,i = #[true,true,true,true,true,true,true,true,true,true,true,true,true,false,false,false,false,false,false,false]→G 7 i a w) ?_ (fun ce=>?_)
  ·
   intro ac a w F H i p;subst p;refine qJ 14 rfl (kK F rfl rfl fun a F=>qJ 15 rfl (qT F rfl (fun w l=>oD nO F rfl rfl) fun a F=>aT [13,16] (by kernel_rfl) (by simp) ⟨⟨_,rfl,?_⟩,⟨_,rfl,?_⟩,trivial⟩))
   ·
    refine aM H (oT zU kR F rfl rfl rfl (H.s [1,0,2,3] rfl rfl).lw an (fun a ed H F=>?_));have H:=H.tl;refine xJ ⟨⟨_,H⟩,?_⟩;exact cd ac ed _ _ (F.su) (H.s [1,0,2,3] rfl rfl) _ (by kernel_rfl)
   refine aM H (oW sizeOf75 F rfl rfl rfl (H.s [3,0,1,2] rfl rfl) ((H.s [3,0,1,2] rfl rfl).l 1 rfl).one rfl rfl fun w H=>xJ ⟨⟨_,H⟩,?_⟩);refine kT H 13 rfl (oT zU kR F rfl rfl rfl (H.s [2,0,1,3] rfl rfl).lw an (fun a ee H F=>?_));have H:=H.tl;refine xJ ⟨⟨_,H⟩,?_⟩;exact cb ac ee _ _ (F.su) (H.s [2,0,1,3] rfl rfl) _ (by kernel_rfl)
  refine dp (fun G=>∀ (ar:Value) (a:Act) (w:World),Sk a 180 [(0,vA f),(5,xF W),(8,vA X),(140,vA f),(141,vA f),(145,n),(146,xF W),(153,ar)]→Sep Y B K w [rl 2 oU 88 ar be,bx X [xF T.var,xF T.value] 88,rl 1 (vS 1 (vS 1 xM)) 38 n J,bx f [xF t,C,xF A,D,n,j] 78]→∀ i,i = #[true,true,true,true,true,true,true,false,true,true,true,true,true,true,false,false,false,false,false,false]→G 7 i a w) ?_ (fun cf=>?_)
  ·
   intro ar a w F H i p;subst p;refine kT H 7 rfl (oTl vW kF F rfl rfl rfl (H.s [2,0,1,3] rfl rfl) bc fun a ef H F=>xJ ⟨⟨_,H⟩,?_⟩);refine qJ 14 rfl (kK F rfl rfl fun a F=>qJ 15 rfl (qT F rfl (fun w l=>oD nO F rfl rfl) (fun a F=>?_)));exact cd ef ar _ _ (F.su) H _ (by kernel_rfl)
  refine dp (fun G=>∀ (a:Act) (w:World),Sk a 180 [(0,vA f),(5,xF W),(8,vA X),(140,vA f),(141,vA f),(145,n),(146,xF W),(151,j),(152,xF W)]→Sep Y B K w [rl 2 oU 88 j E,bx X [xF T.var,xF T.value] 88,rl 1 (vS 1 (vS 1 xM)) 38 n J,bx f [xF t,C,xF A,D,n,j] 78]→∀ i,i = #[true,true,true,true,true,true,true,false,true,true,true,true,true,false,false,false,false,false,false,false]→G 8 i a w) ?_ (fun cg=>?_)
  ·
   intro a w F H i p;subst p;refine aT [7,13] (by kernel_rfl) (by simp) ⟨⟨_,rfl,?_⟩,⟨_,rfl,?_⟩,trivial⟩
   ·
    refine aM H (oTl vW kF F rfl rfl rfl (H.s [2,0,1,3] rfl rfl) bc fun a eg H F=>xJ ⟨⟨_,H⟩,?_⟩);exact ce eg _ _ (F.su) H _ (by kernel_rfl)
   refine aM H (oT zU kR F rfl rfl rfl H.lw an (fun a eh H F=>?_));have H:=H.tl;refine xJ ⟨⟨_,H⟩,?_⟩;exact cf eh _ _ (F.su) H _ (by kernel_rfl)
  refine qV 0 rfl (qO F rfl rfl fun a F=>qV 1 rfl (qO F rfl rfl fun a F=>qV 2 rfl (qO F rfl rfl fun a F=>qJ 3 rfl (kK F rfl rfl fun a F=>qJ 4 rfl (qT F rfl (fun w l=>oD nO F rfl rfl) fun a F=>qV 6 rfl ?_)))));refine qO F rfl rfl fun a F=>qV 8 rfl (qO F rfl rfl fun a F=>qJ 9 rfl (kK F rfl rfl fun a F=>qJ 10 rfl (qT F rfl (fun w l=>oD xDj F rfl rfl) fun a F=>qV 12 rfl (qO F rfl rfl fun a F=>aT [5,11] (by kernel_rfl) (by simp) ⟨⟨_,rfl,?_⟩,⟨_,rfl,?_⟩,trivial⟩))))
  ·
   refine aM H (oB cB F rfl rfl (H.b 4 rfl) rfl fun a F=>xJ ⟨⟨_,H⟩,?_⟩);refine aT [7,11] (by kernel_rfl) (by simp) ⟨⟨_,rfl,?_⟩,⟨_,rfl,?_⟩,trivial⟩
   ·
    refine aM H (oTl vW kF F rfl rfl rfl (H.s [2,0,1,3,4] rfl rfl) bc fun a ei H F=>xJ ⟨⟨_,H⟩,?_⟩);refine kT H 11 rfl (oB dU F rfl rfl (H.b 4 rfl) rfl fun a F=>xJ ⟨⟨_,H⟩,?_⟩);exact ce ei _ _ (F.su) (H.s [0,1,2,4] rfl rfl) _ (by kernel_rfl)
   refine aM H (oB dU F rfl rfl (H.b 4 rfl) rfl fun a F=>xJ ⟨⟨_,H⟩,?_⟩);exact cg _ _ (F.su) (H.s [0,1,2,4] rfl rfl) _ (by kernel_rfl)
  refine aM H (oB dU F rfl rfl (H.b 4 rfl) rfl fun a F=>xJ ⟨⟨_,H⟩,?_⟩);refine aT [5,13] (by kernel_rfl) (by simp) ⟨⟨_,rfl,?_⟩,⟨_,rfl,?_⟩,trivial⟩
  ·
   refine aM H (oB cB F rfl rfl (H.b 4 rfl) rfl fun a F=>xJ ⟨⟨_,H⟩,?_⟩);exact cg _ _ (F.su) (H.s [0,1,2,4] rfl rfl) _ (by kernel_rfl)
  refine aM H (oT zU kR F rfl rfl rfl H.lw an (fun a ej H F=>?_));have H:=H.tl;refine xJ ⟨⟨_,H⟩,?_⟩;refine kT H 5 rfl (oB cB F rfl rfl (H.b 4 rfl) rfl fun a F=>xJ ⟨⟨_,H⟩,?_⟩);exact cf ej _ _ (F.su) (H.s [0,1,2,4] rfl rfl) _ (by kernel_rfl)
 replace d:=zV b9 d;refine xT (zG (xH (xG ?_)));have H:=Sep.unfoc0 hl40 (aN Z) H;refine oO (xA 1 F rfl fun a F=>xJ (xP (xR F rfl (xZ F rfl) ?_)));obtain rfl:=oj d;exact⟨_,rfl,n,j,rfl,(H.s [2,0,3] rfl rfl)⟩
def cW (N:Nat) (d:Template) (e:Instance) (i:List Line):Option ((Int×(List Rel)×Int×(List Con)×(List (List (List Int)))×(List Literal))×Int×Int):=
 xY (aS (Template.mk d.size d.rels) (Instance.mk e.vars e.cons)) fun j=>
 if (!j) then
  some ((0,[],0,[],[],[]),0,1)
 else
  if (decide (4000<(i.length:Int))) then
   some ((0,[],0,[],[],[]),0,3)
  else
   xY (fH (Template.mk d.size d.rels) (Instance.mk e.vars e.cons)) fun c=>
   kY (σ:=(List (List (List Int)))×(List Literal)) (
    qW (σ:=(List (List (List Int)))×(List Literal)) (ρ:=(Int×(List Rel)×Int×(List Con)×(List (List (List Int)))×(List Literal))×Int×Int) (fun (n:Nat) (f:Line) (s:(List (List (List Int)))×(List Literal))=>
      match s with
      | (p,t)=>
      xY (zP N c.1 c.2.1 c.2.2.1 c.2.2.2.1 p t (Line.mk f.kind f.var f.value f.con)) fun h=>
      if (!h.1) then
       some (.ret ((0,[],0,[],[],[]),(n:Int),8))
      else
       some (.go (h.2.1,h.2.2))) i 0 (c.2.2.2.2.1,c.2.2.2.2.2)) fun(y,A)=>
   some ((c.1,c.2.1,c.2.2.1,c.2.2.2.1,y,A),0,0)
theorem uL {B:Nat→Prop} {N:Nat} {x0:Template} {x1:Instance} {n:List Line} (r:(Int×(List Rel)×Int×(List Con)×(List (List (List Int)))×(List Literal))×Int×Int) (d:cW N x0 x1 n=some r) {Y:Value} {Z:Value} {O:Value} (e:World) (hN:∀ c,B c→c<e.heap.size) (A0:Bo B e (aY 2 xL) Y x0) (A1:Bo B e (aY 2 xO) Z x1) (A2:Bo B e (Sl 4 qS) O n):Calls Tryz.prog 29 #[Y,Z,O] e (Gv (fun v w'=>∃ (a4:Value),v= .tuple #[a4,xF r.2.1,xF r.2.2]∧Sep [] B e w' []∧(r.2.2=0→∃ (a5:Nat) (a6 a7 a8 a9:Value),a4=vA a5∧Sep [] B e w' [bx a5 [xF r.1.1,a6,xF r.1.2.2.1,a7,a8,a9] 78,rl 1 (vS 1 (vS 1 xM)) 38 a8 r.1.2.2.2.2.1,rl 2 oU 88 a9 r.1.2.2.2.2.2]∧xS r.1.1∧Bo B e (Sl 2 vG) a6 r.1.2.1∧xS r.1.2.2.1∧Bo B e (Sl 2 qZ) a7 r.1.2.2.2.1)∧xS r.2.1∧xS r.2.2)):=by
 unfold cW at d
 refine xW (L:=[(0,Y),(1,Z),(2,O)]) func29 rfl rfl rfl (sc rfl (sc rfl (sc rfl sn))) (fun a F=>?_);have H:=Sep.start hN;refine xX ?_;obtain⟨v3,rfl,i1,h1⟩:=xL.o A0;refine oX F rfl rfl rfl H (fun a w b1 H F=>?_);obtain⟨bf,rfl,i2,h2⟩:=xO.o A1;refine oX F rfl rfl rfl H fun a w b2 H F=>xA 3 F rfl fun a F=>xJ (xG (qM (xX (lT qU oH F rfl rfl (H.b 1 rfl) rfl rfl (fun a F=>?_)))));refine lT vO oZ F rfl rfl (H.b 0 rfl) rfl rfl (fun a F=>?_);obtain⟨z1,c1,d⟩:=xB d;refine oK F rfl call34 rfl H (jC z1 c1 _ aA (xL.m i1 (H.a h1)) (xO.m i2 (H.a h2))) fun a w H F=>xA 2 F rfl fun a F=>xJ (vK F rfl (fun T=>?_) (fun T=>?_))
 ·
  replace d:=zW T d;refine xX (xA 3 F rfl fun a F=>xJ (xP (zZ (qH (pR F rfl (xZ F rfl) (xZ F rfl) (xZ F rfl) ?_)))));obtain rfl:=oj d;exact⟨_,rfl,_,rfl,(H.s [] rfl rfl),(fun h=>absurd h (show(1:Int)≠0 by decide)),(show xS (0) by decide),(show xS (1) by decide)⟩
 replace d:=zV T d;refine xX (xA 1 F rfl fun a F=>oL qD F rfl rfl A2 fun a i3 F=>xA 2 F rfl fun a F=>xJ (vK F rfl (fun U=>?_) (fun U=>?_)))
 ·
  replace d:=zW U d;refine xX (xA 3 F rfl fun a F=>xJ (xP (zZ (qH (pR F rfl (xZ F rfl) (xZ F rfl) (xZ F rfl) ?_)))));obtain rfl:=oj d;exact⟨_,rfl,_,rfl,(H.s [] rfl rfl),(fun h=>absurd h (show(3:Int)≠0 by decide)),(show xS (0) by decide),(show xS (3) by decide)⟩
 replace d:=zV U d;refine xT (zG (xH (xX (lT qU oH F rfl rfl (H.b 1 rfl) rfl rfl fun a F=>lT vO oZ F rfl rfl (H.b 0 rfl) rfl rfl (fun a F=>?_)))));obtain⟨i,c2,d⟩:=xB d;refine oG F rfl call64 rfl (yF i c2 _ H.hN (xL.m i1 (H.u h1)) (xO.m i2 (H.u h2))) (fun a vv w ⟨p,D,E,v6,v7,bg,S,i4,P,i5,M⟩ F=>?_);subst vv;have P:=H.dn P;have M:=H.dn M;have H:=H.rk S ⟨n0,⟨n0,⟨n0,trivial⟩⟩⟩ rfl;refine xA 1 F rfl fun a F=>xJ (xG (xX (xA 1 F rfl fun a F=>oL qD F rfl rfl A2 fun a i6 F=>xA 1 F rfl fun a F=>xJ ?_)));obtain⟨o1,d,aa⟩:=xV d;refine qG (fun a w=>∃ (s1:List (List (List Int))) (Q:Value) (s2:List Literal) (R:Value),o1= .nx (s1,s2)∧Sk a 38 [(9,vA p)]∧Sep [] B e w [bx p [xF i.1,D,xF i.2.2.1,E,Q,R] 78,rl 1 (vS 1 (vS 1 xM)) 38 Q s1,rl 2 oU 88 R s2]) ?_ ?_
 ·
  refine qM ?_;obtain⟨an,ao,d⟩:=vY d;refine vT (fun g a w=>∃ (C:Nat) (t:List Line) (G:List (List (List Int))) (y:Value) (I:List Literal) (A:Value),(C≤n.length∧n.drop C=t)∧t.length=g∧qW an t C (G,I)=some o1∧Sk a 38 [(26,xF (C:Int)),(9,vA p),(24,O),(25,xF (n.length:Int))]∧Sep [] B e w [bx p [xF i.1,D,xF i.2.2.1,E,y,A] 78,rl 1 (vS 1 (vS 1 xM)) 38 y G,rl 2 oU 88 A I]) n.length ?_ ?_
  ·
   exact⟨0,n,i.2.2.2.2.1,v6,i.2.2.2.2.2,v7,⟨Nat.zero_le _,rfl⟩,rfl,d,F.su,(H.s [0,1,2] rfl rfl)⟩
  intro g1 a w ⟨C,t,G,y,I,A,j,aq,d,F,H⟩
  cases t with
  | nil=>
   replace d:=vX d;have q1:=vZ j.1 j.2;have l1:=kW q1;refine xX (xA 1 F rfl fun a F=>xJ (xG (aC F rfl l1 (vU (vV (vV (bC ?_)))))));refine xH ?_;exact⟨G,y,I,A,(kQ d),F.su,H⟩
  | cons f t=>
   subst aq;replace j:=qY j.2;have y1:=zI j.2.1;obtain⟨bh,d,ab⟩:=vE d;rw[ao] at d;have l1:=zT j.1;refine xX (xA 1 F rfl fun a F=>xJ (xG (aD F rfl l1 (xT (xH (xG ?_))))));have j1:=k64 (Nat.le_of_lt j.1) i6;have m1:=bG j.1 i6;refine qM (xX (xA 1 F rfl fun a F=>oI qD vD F rfl rfl rfl A2 y1 fun a p1 h4 F=>olA dI vD F rfl rfl H.sm h4 fun a bi h5 F=>oA kC F rfl rfl H fun a w b4 H F=>xA 1 F rfl fun a F=>?_));obtain⟨rfl,i7,i8,i9,ar⟩:=qS.o h5;refine gN (vs:=[xF f.kind,xF f.var,xF f.value,xF f.con]) vD F rfl rfl rfl H (oc rfl (oc rfl (oc rfl (oc rfl on)))) rfl rfl fun w H=>zR (xA 1 F rfl fun a F=>lT dI vD F rfl rfl (H.b 0 rfl) rfl rfl (fun a F=>?_));obtain⟨J,c3,d⟩:=xB d;obtain⟨X1,K1,au⟩:=Sep.lend (K:=[bx p [xF i.1,D,xF i.2.2.1,E,y,A] 78,rl 1 (vS 1 (vS 1 xM)) 38 y G,rl 2 oU 88 A I]) (L:=[bx b4 [xF f.kind,xF f.var,xF f.value,xF f.con] 45]) (H.s [1,2,3,0] rfl rfl);refine oG F rfl call65 rfl (uX J c3 _ H.hN K1 i4 (H.u P) i5 (H.u M) (qS.m i7 i8 i9 ar)) (fun a vv w ⟨V,W,bj,S⟩ F=>?_);subst vv;have H:Sep [] B e w [bx p [xF i.1,D,xF i.2.2.1,E,V,W] 78,rl 1 (vS 1 (vS 1 xM)) 38 V J.2.1,rl 2 oU 88 W J.2.2,bx b4 [xF f.kind,xF f.var,xF f.value,xF f.con] 45]:=au S;refine xA 1 F rfl fun a F=>xJ (vK F rfl (fun X=>?_) (fun X=>?_))
   ·
    replace d:=zW X d;refine xX (xA 4 F rfl fun a F=>xJ (xP (zZ (qH ?_))));refine qH ?_;replace d:=bQ d ab;refine zZ (qH ?_);replace d:=bR d aa;refine qH (pR F rfl (xZ F rfl) (xZ F rfl) (xZ F rfl) ?_);obtain rfl:=oj d;exact⟨_,rfl,_,rfl,(H.s [] rfl rfl),(fun h=>absurd h (show(8:Int)≠0 by decide)),j1,(show xS (8) by decide)⟩
   replace d:=zV X d;refine xT (zG (xH (oO (kO F rfl rfl rfl m1 fun a F=>xA 1 F rfl fun a F=>xJ ?_))));replace d:=aB d ab;exact⟨_,Nat.lt_succ_self _,C+1,t,J.2.1,V,J.2.2,W,⟨j.1,j.2.2⟩,rfl,d,F.su,(H.s [0,1,2] rfl rfl)⟩
 rintro a w ⟨s1,Q,s2,R,rfl,F,H⟩
 have d:=oJ aa;refine xH (xX (xA 4 F rfl fun a F=>xJ (xP (pR F rfl (xZ F rfl) (xZ F rfl) (xZ F rfl) ?_))));obtain rfl:=oj d;exact⟨_,rfl,_,rfl,(H.s [] rfl rfl),(fun _=>⟨p,D,E,Q,R,rfl,H,i4,P,i5,M⟩),(show xS (0) by decide),(show xS (0) by decide)⟩
def zO (N:Nat) (e:Template) (f:Instance) (d:List Line):Option (Int×Int):=
 xY (cW N (Template.mk e.size e.rels) (Instance.mk f.vars f.cons) d) fun c=>
 if (c.2.2 != 0) then
  some (c.2.1,c.2.2)
 else
  if (decide (0<(c.1.2.2.2.2.1.length:Int))) then
   some ((d.length:Int),8)
  else
   some ((d.length:Int),0)
theorem eL {B:Nat→Prop} {N:Nat} {t:Template} {y:Instance} {A:List Line} (r:Int×Int) (d:zO N t y A=some r) {i:Value} {j:Value} {n:Value} (e:World) (E:∀ c,B c→c<e.heap.size) (G:Bo B e (aY 2 xL) i t) (I:Bo B e (aY 2 xO) j y) (p:Bo B e (Sl 4 qS) n A):Calls Tryz.prog 8 #[i,j,n] e (Gv (fun v w'=>v= .tuple #[xF r.1,xF r.2]∧Sep [] B e w' []∧xS r.1∧xS r.2)):=by
 unfold zO at d
 refine xW (L:=[(0,i),(1,j),(2,n)]) func8 rfl rfl rfl (sc rfl (sc rfl (sc rfl sn))) (fun a F=>?_);have H:=Sep.start E;refine xX ?_;obtain⟨Z,rfl,J,K⟩:=xL.o G;refine oX F rfl rfl rfl H (fun a w b1 H F=>?_);obtain⟨W,rfl,M,O⟩:=xO.o I;refine oX F rfl rfl rfl H fun a w b2 H F=>xA 2 F rfl fun a F=>zR (lT qU oH F rfl rfl (H.b 1 rfl) rfl rfl fun a F=>lT vO oZ F rfl rfl (H.b 0 rfl) rfl rfl fun a F=>xA 1 F rfl fun a F=>?_);obtain⟨C,P,d⟩:=xB d;refine oG F rfl call29 rfl (uL C P _ H.hN (xL.m J (H.u K)) (xO.m M (H.u O)) (H.u p)) (fun a Q w ⟨v4,X,S,D,R,T⟩ F=>?_);subst Q;have H:=H.r0 S;refine xA 7 F rfl fun a F=>xJ (xG (qM ?_));refine xX (xA 3 F rfl fun a F=>xJ (vK F rfl (fun f=>?_) (fun f=>?_)))
 ·
  replace d:=zW f d;refine xX (xA 4 F rfl fun a F=>xJ (xP (zZ (qH ?_))));refine zS F rfl (xZ F rfl) (xZ F rfl) ?_;obtain rfl:=oj d;exact⟨_,rfl,rfl,(H.s [] rfl rfl),R,T⟩
 replace d:=zV f d;refine xX (xA 1 F rfl fun a F=>?_);obtain⟨b3,v5,v6,v7,v8,rfl,HC28,i5,h3,Y,h4⟩:=D (ne0 ‹(C.2.2 != 0)=false›);refine zB F rfl rfl fun a F=>oQ nO F rfl rfl rfl fun a F=>oB cB F rfl rfl (HC28.b 0 rfl) rfl fun a F=>oL vW F rfl rfl (HC28.l 1 rfl) fun a i6 F=>xA 2 F rfl fun a F=>xJ (vK F rfl (fun h=>?_) (fun h=>?_))
 ·
  replace d:=zW h d;refine xX (xA 1 F rfl fun a F=>oL qD F rfl rfl p fun a U F=>xA 2 F rfl fun a F=>xJ (xP (zZ (qH ?_))));refine zS F rfl (xZ F rfl) (xZ F rfl) ?_;obtain rfl:=oj d;exact⟨_,rfl,rfl,(H.s [] rfl rfl),U,(show xS (8) by decide)⟩
 replace d:=zV h d;refine xT (zG (xH (xX (xA 1 F rfl fun a F=>oL qD F rfl rfl p fun a V F=>xA 2 F rfl fun a F=>xJ ?_))));refine xP (zS F rfl (xZ F rfl) (xZ F rfl) ?_);obtain rfl:=oj d;exact⟨_,rfl,rfl,(H.s [] rfl rfl),V,(show xS (0) by decide)⟩
def bY (N:Nat) (d:Template) (e:Instance) (h:List Line):Option ((List (List Int))×Int×Int):=
 xY (cW N (Template.mk d.size d.rels) (Instance.mk e.vars e.cons) h) fun c=>
 if (c.2.2 != 0) then
  some ([],c.2.1,c.2.2)
 else
  if ((c.1.2.2.2.2.1.length:Int)==0) then
   some ([],0,4)
  else
   xY (ck ((c.1.2.2.2.2.1.length:Int) - 1)) fun f=>
   xY (ix c.1.2.2.2.2.1 f) fun i=>
   xY (eO i) fun j=>
   some (j,f,0)
theorem nV {B:Nat→Prop} {N:Nat} {y:Template} {A:Instance} {C:List Line} (r:(List (List Int))×Int×Int) (d:bY N y A C=some r) {i:Value} {j:Value} {n:Value} (e:World) (J:∀ c,B c→c<e.heap.size) (K:Bo B e (aY 2 xL) i y) (M:Bo B e (aY 2 xO) j A) (O:Bo B e (Sl 4 qS) n C):Calls Tryz.prog 9 #[i,j,n] e (Gv (fun v w'=>∃ (t:Value),v= .tuple #[t,xF r.2.1,xF r.2.2]∧Sep [] B e w' [rl 1 (vS 1 xM) 46 t r.1]∧xS r.2.1∧xS r.2.2)):=by
 unfold bY at d
 refine xW (L:=[(0,i),(1,j),(2,n)]) func9 rfl rfl rfl (sc rfl (sc rfl (sc rfl sn))) (fun a F=>?_);have H:=Sep.start J;refine xX ?_;obtain⟨v3,rfl,P,Q⟩:=xL.o K;refine oX F rfl rfl rfl H (fun a w b1 H F=>?_);obtain⟨a2,rfl,R,T⟩:=xO.o M;refine oX F rfl rfl rfl H fun a w b2 H F=>xA 3 F rfl fun a F=>zR (lT qU oH F rfl rfl (H.b 1 rfl) rfl rfl fun a F=>lT vO oZ F rfl rfl (H.b 0 rfl) rfl rfl fun a F=>xA 1 F rfl fun a F=>?_);obtain⟨D,U,d⟩:=xB d;refine oG F rfl call29 rfl (uL D U _ H.hN (xL.m P (H.u Q)) (xO.m R (H.u T)) (H.u O)) (fun a p w ⟨v4,a3,S,G,V,W⟩ F=>?_);subst p;have H:=H.r0 S;refine xA 7 F rfl fun a F=>xJ (xG (qM ?_));refine xX (xA 3 F rfl fun a F=>xJ (vK F rfl (fun f=>?_) (fun f=>?_)))
 ·
  replace d:=zW f d;refine xX (xA 5 F rfl fun a F=>xJ (xP (zZ ?_)));refine qH (pR F rfl (xZ F rfl) (xZ F rfl) (xZ F rfl) ?_);obtain rfl:=oj d;exact⟨_,rfl,vH,rfl,((H.nl 1 (vS 1 xM) 46).s [0] rfl rfl),V,W⟩
 replace d:=zV f d;refine xX (xA 1 F rfl fun a F=>?_);obtain⟨b3,v5,v6,v7,v8,rfl,HC29,i5,a4,i6,h3⟩:=G (ne0 ‹(D.2.2 != 0)=false›);refine zB F rfl rfl fun a F=>oQ nO F rfl rfl rfl fun a F=>oB cB F rfl rfl (HC29.b 0 rfl) rfl fun a F=>oL vW F rfl rfl (HC29.l 1 rfl) fun a i7 F=>xA 2 F rfl fun a F=>xJ (vK F rfl (fun h=>?_) (fun h=>?_))
 ·
  replace d:=zW h d;refine xX (xA 3 F rfl fun a F=>xJ (xP (zZ (qH (pR F rfl (xZ F rfl) (xZ F rfl) (xZ F rfl) ?_)))));obtain rfl:=oj d;exact⟨_,rfl,vH,rfl,((H.nl 1 (vS 1 xM) 46).s [0] rfl rfl),(show xS (0) by decide),(show xS (4) by decide)⟩
 replace d:=zV h d;refine xT (zG (xH (xX (xA 1 F rfl fun a F=>zB F rfl rfl fun a F=>oQ nO F rfl rfl rfl fun a F=>oB cB F rfl rfl (HC29.b 0 rfl) rfl fun a F=>oL vW F rfl rfl (HC29.l 1 rfl) (fun a i8 F=>?_)))));obtain⟨z2,E,d⟩:=xB d;refine gY F rfl rfl rfl E fun a F=>xA 1 F rfl fun a F=>zR (xA 1 F rfl fun a F=>zB F rfl rfl fun a F=>oQ nO F rfl rfl rfl fun a F=>oB cB F rfl rfl (HC29.b 0 rfl) rfl fun a F=>xA 1 F rfl fun a F=>?_);obtain⟨z3,X,d⟩:=xB d;refine oI vW kF F rfl rfl rfl (HC29.l 1 rfl) X fun a p1 Y F=>olS zD F rfl rfl (Sm.refl _ _) Y (fun a v9 Z F=>?_);obtain⟨z4,c4,d⟩:=xB d;refine oG F rfl call30 rfl (tF z4 c4 _ aA Z) (fun a p w ⟨I,a5,S⟩ F=>?_);subst p;have H:=H.r1 S n0;refine xA 4 F rfl fun a F=>xJ (xP (pR F rfl (xZ F rfl) (xZ F rfl) (xZ F rfl) ?_));obtain rfl:=oj d;exact⟨_,rfl,I,rfl,(H.s [0] rfl rfl),(bD E),(show xS (0) by decide)⟩
def lV (h:List Line):Option (Int×Int):=
 if (decide (4000<(h.length:Int))) then
  some (0,3)
 else
  kY (σ:=Int×Int) (
   qW (σ:=Int×Int) (ρ:=Int×Int) (fun (n:Nat) (i:Line) (s:Int×Int)=>
     match s with
     | (c,d)=>
     if (decide (c<0)) then
      some (.ret (0,4))
     else
      if (i.kind==1) then
       xY (ck (c+1)) fun e=>
       some (.go (e,(if d<e then e else d)))
      else
       if (i.kind==3) then
        xY (ck (c - 1)) fun f=>
        some (.go (f,(if d<f then f else d)))
       else
        some (.go (c,(if d<c then c else d)))) h 0 (0,0)) fun(p,j)=>
  some (j,0)
theorem xEm {B:Nat→Prop} {n:List Line} (r:Int×Int) (d:lV n=some r) {y:Value} (p:World) (hN:∀ c,B c→c<p.heap.size) (K:Bo B p (Sl 4 qS) y n):Calls Tryz.prog 11 #[y] p (Gv (fun v w'=>v= .tuple #[xF r.1,xF r.2]∧Sep [] B p w' []∧xS r.1∧xS r.2)):=by
 unfold lV at d
 refine xW (L:=[(0,y)]) func11 rfl rfl rfl (sc rfl sn) (fun a F=>?_);have H:=Sep.start hN;refine xX (xA 2 F rfl fun a F=>xJ (xG (xX (xA 1 F rfl fun a F=>oL qD F rfl rfl K (fun a i1 F=>?_)))));refine xA 1 F rfl fun a F=>xJ (vK F rfl (fun G=>?_) (fun G=>?_))
 ·
  replace d:=zW G d;refine xX (xA 2 F rfl fun a F=>xJ (xP (qH (zS F rfl (xZ F rfl) (xZ F rfl) ?_))));obtain rfl:=oj d;exact⟨_,rfl,rfl,H,(show xS (0) by decide),(show xS (3) by decide)⟩
 replace d:=zV G d;refine xT (xH (xX (xA 2 F rfl fun a F=>xJ (xG (xX ?_)))));refine xA 1 F rfl fun a F=>oL qD F rfl rfl K fun a U F=>xA 1 F rfl fun a F=>xJ ?_;obtain⟨V,d,T⟩:=xV d;refine qG (fun a w=>∃ (M A:Int),V= .nx (M,A)∧Sk a 34 [(5,xF A)]∧Sep [] B p w []∧xS M∧xS A) ?_ ?_
 ·
  refine qM ?_;obtain⟨W,X,d⟩:=vY d;refine vT (fun g a w=>∃ (i:Nat) (h:List Line) (j f:Int),(i≤n.length∧n.drop i=h)∧h.length=g∧qW W h i (j,f)=some V∧Sk a 34 [(13,xF (i:Int)),(4,xF j),(5,xF f),(11,y),(12,xF (n.length:Int))]∧Sep [] B p w []∧xS j∧xS f) n.length ?_ ?_
  ·
   exact⟨0,n,0,0,⟨Nat.zero_le _,rfl⟩,rfl,d,F.su,H,(show xS (0) by decide),(show xS (0) by decide)⟩
  intro g1 a w ⟨i,h,j,f,e,Y,d,F,H,N,C⟩
  cases h with
  | nil=>
   replace d:=vX d;have q1:=vZ e.1 e.2;have l1:=kW q1;refine xX (xA 1 F rfl fun a F=>xJ (xG (aC F rfl l1 (vU (vV (vV (bC ?_)))))));refine xH ?_;exact⟨j,f,(kQ d),F.su,H,N,C⟩
  | cons D h=>
   subst Y;replace e:=qY e.2;have y1:=zI e.2.1;obtain⟨a5,d,t⟩:=vE d;rw[X] at d;have l1:=zT e.1;refine xX (xA 1 F rfl fun a F=>xJ (xG (aD F rfl l1 (xT (xH (xG ?_))))));have j1:=k64 (Nat.le_of_lt e.1) U;have O:=bG e.1 U;refine qM (xX (oI qD vD F rfl rfl rfl K y1 fun a p1 h1 F=>olA dI vD F rfl rfl H.sm h1 fun a v1 h2 F=>oA kC F rfl rfl H (fun a w b1 H F=>?_)));obtain⟨rfl,i5,i6,i7,i8⟩:=qS.o h2;refine gN (vs:=[xF D.kind,xF D.var,xF D.value,xF D.con]) vD F rfl rfl rfl H (oc rfl (oc rfl (oc rfl (oc rfl on)))) rfl rfl fun w H=>xJ (xG (xX (xA 2 F rfl fun a F=>xJ (vK F rfl (fun I=>?_) (fun I=>?_)))))
   ·
    replace d:=zW I d;refine xX (xA 2 F rfl fun a F=>xJ (xP (qH (zZ (qH (qH ?_))))));replace d:=bQ d t;refine zZ (qH ?_);replace d:=bR d T;refine qH (zS F rfl (xZ F rfl) (xZ F rfl) ?_);obtain rfl:=oj d;exact⟨_,rfl,rfl,(H.s [] rfl rfl),(show xS (0) by decide),(show xS (4) by decide)⟩
   replace d:=zV I d;refine xT (xH (xG (xX (oQ sR F rfl rfl rfl fun a F=>oB xN F rfl rfl (H.b 0 rfl) rfl fun a F=>xJ (qM (xG ?_))))));refine oO (xA 2 F rfl fun a F=>xJ (vK F rfl (fun E=>?_) (fun E=>?_)))
   ·
    replace d:=zW E d;refine oO (xA 1 F rfl fun a F=>?_);obtain⟨P,Q,d⟩:=xB d;refine fF F rfl rfl rfl Q fun a F=>xA 1 F rfl fun a F=>vP (zG (xH (oO (xA 2 F rfl fun a F=>xMp F rfl rfl rfl fun a F=>xA 1 F rfl fun a F=>vP ?_))));refine zG (xH (oO (kO F rfl rfl rfl O fun a F=>xA 1 F rfl fun a F=>xJ ?_)));replace d:=aB d t;exact⟨_,Nat.lt_succ_self _,i+1,h,P,(if f<P then P else f),⟨e.1,e.2.2⟩,rfl,d,F.su,(H.s [] rfl rfl),(bD Q),(xLt C (bD Q))⟩
   replace d:=zV E d;refine xX (xA 2 F rfl fun a F=>xJ (vK F rfl (fun J=>?_) (fun J=>?_)))
   ·
    replace d:=zW J d;refine oO (xA 1 F rfl fun a F=>?_);obtain⟨R,S,d⟩:=xB d;refine gY F rfl rfl rfl S fun a F=>xA 1 F rfl fun a F=>vP (zG (xH (oO (xA 2 F rfl fun a F=>xMp F rfl rfl rfl fun a F=>xA 1 F rfl fun a F=>vP ?_))));refine zG (xH (oO (kO F rfl rfl rfl O fun a F=>xA 1 F rfl fun a F=>xJ ?_)));replace d:=aB d t;exact⟨_,Nat.lt_succ_self _,i+1,h,R,(if f<R then R else f),⟨e.1,e.2.2⟩,rfl,d,F.su,(H.s [] rfl rfl),(bD S),(xLt C (bD S))⟩
   replace d:=zV J d;refine xT (zG (xH (oO (xA 2 F rfl fun a F=>xMp F rfl rfl rfl fun a F=>xA 1 F rfl fun a F=>vP (zG (xH ?_))))));refine oO (kO F rfl rfl rfl O fun a F=>xA 1 F rfl fun a F=>xJ ?_);replace d:=aB d t;exact⟨_,Nat.lt_succ_self _,i+1,h,j,(if f<j then j else f),⟨e.1,e.2.2⟩,rfl,d,F.su,(H.s [] rfl rfl),N,(xLt C N)⟩
 rintro a w ⟨M,A,rfl,F,H,i9,Z⟩
 have d:=oJ T;refine xH (xX (xA 3 F rfl fun a F=>xJ (xP (zS F rfl (xZ F rfl) (xZ F rfl) ?_))));obtain rfl:=oj d;exact⟨_,rfl,rfl,H,Z,(show xS (0) by decide)⟩
def lO (d:List Int):Option (List Int):=
 xY (zE d) fun e=>
 xY (bW e) fun c=>
 xY (aW c) fun f=>
 some f
theorem wJ {B:Nat→Prop} {i:List Int} (r:(List Int)) (d:lO i=some r) {f:Value} (e:World) (j:∀ c,B c→c<e.heap.size) (n:Bo B e (Sl 1 xM) f i):Calls Tryz.prog 39 #[f] e (Gv (fun v w'=>∃ (h:Value),v=h∧Sep [] B e w' [rl 1 xM 2 h r])):=by
 unfold lO at d
 refine xW (L:=[(0,f)]) func39 rfl rfl rfl (sc rfl sn) (fun a F=>?_);have H:=Sep.start j;refine xX (xA 1 F rfl fun a F=>zR (xA 1 F rfl fun a F=>?_));obtain⟨p,t,d⟩:=xB d;refine oG F rfl call66 rfl (cE p t _ aA (H.a n)) (fun a y w ⟨I,E,S⟩ F=>?_);subst y;have H:=H.r1 S n0;refine xA 1 F rfl fun a F=>zR (xA 1 F rfl fun a F=>?_);obtain⟨G,A,d⟩:=xB d;refine xWb F rfl call76 rfl H A fun a w H F=>zR (xA 1 F rfl fun a F=>?_);obtain⟨J,C,d⟩:=xB d;refine xOc F rfl call77 rfl H C fun a w D H F=>xA 1 F rfl fun a F=>xJ (xP (xR F rfl (xZ F rfl) ?_));obtain rfl:=oj d;exact⟨_,rfl,D,rfl,H⟩
def bJ (c d:List Int):Option Bool:=
 if ((c.length:Int) != (d.length:Int)) then
  some false
 else
  kY (σ:=Unit) (
   qW (σ:=Unit) (ρ:=Bool) (fun (f:Nat) (e:Int) (s:Unit)=>
     match s with
     | _=>
     xY (ix d (f:Int)) fun h=>
     if (e != h) then
      some (.ret false)
     else
      some (.go ())) c 0 ()) fun _=>
  some true
theorem nP {B:Nat→Prop} {f E:List Int} (r:Bool) (d:bJ f E=some r) {n:Value} {p:Value} (h:World) (O:∀ c,B c→c<h.heap.size) (A:Bo B h (Sl 1 xM) n f) (G:Bo B h (Sl 1 xM) p E):Calls Tryz.prog 38 #[n,p] h (bK (.bool r) h):=by
 unfold bJ at d
 refine xW (L:=[(0,n),(1,p)]) func38 rfl rfl rfl (sc rfl (sc rfl sn)) (fun a F=>?_);have H:=Sep.start O;refine xX (xA 1 F rfl fun a F=>xJ (xG (xX (xA 1 F rfl fun a F=>oL xC F rfl rfl A fun a X F=>xA 1 F rfl fun a F=>?_))));refine oL xC F rfl rfl G fun a Y F=>xA 1 F rfl fun a F=>xJ (vK F rfl (fun t=>?_) (fun t=>?_))
 ·
  replace d:=zW t d;refine xX (xA 1 F rfl fun a F=>xJ (xP (qH (xR F rfl (xZ F rfl) ?_))));obtain rfl:=oj d;exact⟨rfl,H.bl⟩
 replace d:=zV t d;refine xT (xH (xG (xX (xA 1 F rfl fun a F=>oL xC F rfl rfl A fun a I F=>xA 1 F rfl fun a F=>xJ ?_))));obtain⟨J,d,C⟩:=xV d;refine qG (fun a w=>J= .nx ()∧Sk a 26 []∧Sep [] B h w []) ?_ ?_
 ·
  refine qM ?_;obtain⟨K,M,d⟩:=vY d;refine vT (fun g a w=>∃ (j:Nat) (i:List Int),(j≤f.length∧f.drop j=i)∧i.length=g∧qW K i j ()=some J∧Sk a 26 [(13,xF (j:Int)),(0,n),(1,p),(12,xF (f.length:Int))]∧Sep [] B h w []) f.length ?_ ?_
  ·
   exact⟨0,f,⟨Nat.zero_le _,rfl⟩,rfl,d,F.su,H⟩
  intro Z a w ⟨j,i,e,N,d,F,H⟩
  cases i with
  | nil=>
   replace d:=vX d;have P:=vZ e.1 e.2;have l1:=kW P;refine xX (xA 1 F rfl fun a F=>xJ (xG (aC F rfl l1 (vU (vV (vV (bC ?_)))))));refine xH ?_;exact⟨(kQ d),F.sub sn,H⟩
  | cons V i=>
   subst N;replace e:=qY e.2;have Q:=zI e.2.1;obtain⟨W,d,D⟩:=vE d;rw[M] at d;have l1:=zT e.1;refine xX (xA 1 F rfl fun a F=>xJ (xG (aD F rfl l1 (xT (xH (xG ?_))))));have j1:=k64 (Nat.le_of_lt e.1) I;have R:=bG e.1 I;refine qM (xX (xA 2 F rfl fun a F=>xJ (xG (xQa H (oM F rfl rfl fun a F=>oM F rfl rfl (fun a F=>?_))))));refine qI xC xI F rfl rfl rfl A Q fun a p1 S F=>qlI xN F rfl rfl H.q S fun a i4 F=>oM F rfl rfl fun a F=>oM F rfl rfl (fun a F=>?_);obtain⟨z1,T,d⟩:=xB d;refine qI xC xI F rfl rfl rfl G T fun a p2 U F=>qlI xN F rfl rfl H.q U fun a i5 F=>zH F rfl (fun w l=>uN F rfl rfl) fun a F=>aF fun w H=>xH (vK F rfl (fun y=>?_) (fun y=>?_))
   ·
    replace d:=zW y d;refine xX (xA 1 F rfl fun a F=>xJ (xP (zZ (qH (qH ?_)))));replace d:=bQ d D;refine zZ (qH ?_);replace d:=bR d C;refine qH (xR F rfl (xZ F rfl) ?_);obtain rfl:=oj d;exact⟨rfl,H.bl⟩
   replace d:=zV y d;refine xT (zG (xH (oO (kO F rfl rfl rfl R fun a F=>xA 1 F rfl fun a F=>xJ ?_))));replace d:=aB d D;exact⟨_,Nat.lt_succ_self _,j+1,i,⟨e.1,e.2.2⟩,rfl,d,F.su,H⟩
 rintro a w ⟨rfl,F,H⟩
 have d:=oJ C;refine xH (xX (xA 1 F rfl fun a F=>xJ (xP (xR F rfl (xZ F rfl) ?_))));obtain rfl:=oj d;exact⟨rfl,H.bl⟩
def eH (c:List Int) (d:Template):Option Bool:=
 kY (σ:=Bool) (
  xY (aK d.size c (c.length:Int)) fun e=>
  if (!e) then  some (.nx true) else  xY (lO c) fun f=>
   xY (bJ c f) fun h=>
   some (.nx (!h))) fun i=>
 some i
theorem tJ {B:Nat→Prop} {p:List Int} {t:Template} (r:Bool) (d:eH p t=some r) {i:Value} {j:Value} (e:World) (E:∀ c,B c→c<e.heap.size) (h:Bo B e (Sl 1 xM) i p) (G:Bo B e (Pt 2 xL) j t):Calls Tryz.prog 36 #[i,j] e (bK (.bool r) e):=by
 unfold eH at d
 refine xW (L:=[(0,i),(1,j)]) func36 rfl rfl rfl (sc rfl (sc rfl sn)) (fun a F=>?_);have H:=Sep.start E;refine xX (xA 1 F rfl fun a F=>xJ (xG ?_));obtain⟨I,d,C⟩:=xV d;refine qG (fun a w=>∃ (n:Bool),I= .nx n∧Sk a 18 [(3,.bool n)]∧Sep [] B e w []) ?_ ?_
 ·
  refine oO (oF (s':=1) sZ F rfl rfl G xL.f0 fun a T J F=>olI xN F rfl rfl H.sm J fun a K F=>xA 2 F rfl fun a F=>oL xC F rfl rfl h (fun a D F=>?_));obtain⟨y,M,d⟩:=xB d;refine oK F rfl call37 rfl H (jN y M _ aA K (H.a h) D) fun a w H F=>xA 2 F rfl fun a F=>?_
  rcases zC (!y) with f | f
  ·
   replace d:=zW f d;have F:=F.eb 11 rfl f;refine xA 7 F rfl fun a F=>xJ ?_;exact⟨true,(kQ d),F.su,H⟩
  replace d:=zV f d;have F:=F.eb 11 rfl f;refine xA 2 F rfl fun a F=>?_;obtain⟨N,O,d⟩:=xB d;refine oG F rfl call39 rfl (wJ N O _ aA (H.a h)) (fun a P w ⟨U,R,S⟩ F=>?_);subst P;have H:=H.r1 S n0;obtain⟨A,Q,d⟩:=xB d;refine oK F rfl call38 rfl H (nP A Q _ aA (H.a h) (H.l 0 rfl)) fun a w H F=>xA 3 F rfl fun a F=>xJ ?_;exact⟨(!A),(kQ d),F.su,(H.s [] rfl rfl)⟩
 rintro a w ⟨n,rfl,F,H⟩
 have d:=oJ C;refine xH (xP (xR F rfl (xZ F rfl) ?_));obtain rfl:=oj d;exact⟨rfl,H.bl⟩
def fO (c:Template) (d:Instance) (e:List (List Int)):Option Bool:=
 kY (σ:=Bool) (
  xY (aS (Template.mk c.size c.rels) (Instance.mk d.vars d.cons)) fun h=>
  if (!h) then  some (.nx true) else  some (.nx ((e.length:Int) != d.vars))) fun i=>
 if i then
  some false
 else
  xY (zJ e (fun j=>eH j (Template.mk c.size c.rels))) fun f=>
  some ((!f))
theorem wB {B:Nat→Prop} {n:Template} {p:Instance} {t:List (List Int)} (r:Bool) (d:fO n p t=some r) {y:Value} {A:Value} {i:Value} (e:World) (N:∀ c,B c→c<e.heap.size) (O:Bo B e (aY 2 xL) y n) (P:Bo B e (aY 2 xO) A p) (D:Bo B e (Sl 1 (vS 1 xM)) i t):Calls Tryz.prog 13 #[y,A,i] e (bK (.bool r) e):=by
 unfold fO at d
 refine xW (L:=[(0,y),(1,A),(2,i)]) func13 rfl rfl rfl (sc rfl (sc rfl (sc rfl sn))) (fun a F=>?_);have H:=Sep.start N;refine xX ?_;obtain⟨Q,rfl,E,G⟩:=xL.o O;refine oX F rfl rfl rfl H (fun a w I H F=>?_);obtain⟨X,rfl,R,S⟩:=xO.o P;refine oX F rfl rfl rfl H fun a w Y H F=>xA 1 F rfl fun a F=>xJ (xG (xG ?_));obtain⟨T,d,K⟩:=xV d;refine qG (fun a w=>∃ (C:Bool),T= .nx C∧Sk a 22 [(2,i),(3,vA I),(17,.bool C)]∧Sep [] B e w [bx I [xF n.size,Q] 26]) ?_ ?_
 ·
  refine oO (lT qU oH F rfl rfl (H.b 1 rfl) rfl rfl fun a F=>lT vO oZ F rfl rfl (H.b 0 rfl) rfl rfl (fun a F=>?_));obtain⟨J,U,d⟩:=xB d;refine oK F rfl call34 rfl H (jC J U _ aA (xL.m E (H.a G)) (xO.m R (H.a S))) fun a w H F=>xA 2 F rfl fun a F=>?_
  rcases zC (!J) with f | f
  ·
   replace d:=zW f d;have F:=F.eb 11 rfl f;refine xA 6 F rfl fun a F=>xJ ?_;exact⟨true,(kQ d),F.su,(H.s [1] rfl rfl)⟩
  replace d:=zV f d;have F:=F.eb 11 rfl f;refine xA 1 F rfl fun a F=>oL xK F rfl rfl D fun a Z F=>oQ gP F rfl rfl rfl fun a F=>oB xN F rfl rfl (H.b 0 rfl) rfl fun a F=>xA 2 F rfl fun a F=>xJ ?_;exact⟨((t.length:Int) != p.vars),(kQ d),F.su,(H.s [1] rfl rfl)⟩
 rintro a w ⟨C,rfl,F,H⟩
 have d:=oJ K;refine xH (vK F rfl (fun j=>?_) (fun j=>?_))
 ·
  replace d:=zW j d;refine xX (xA 1 F rfl fun a F=>xJ (xP (qH (xR F rfl (xZ F rfl) ?_))));obtain rfl:=oj d;exact⟨rfl,H.bl⟩
 replace d:=zV j d;refine xT (xH (xX (xA 1 F rfl fun a F=>wZ F rfl rfl rfl (fun a F=>?_))));obtain⟨M,V,d⟩:=xB d;refine oK F rfl call35 rfl H (dM M V _ aA (H.a D) call36 (fun a0 r h W l1 u0 f0=>tJ r h W aA f0 ((xL.b (H.g 0 rfl).bk E (H.a G)).w l1))) fun a w H F=>xA 2 F rfl fun a F=>xJ (xP (xR F rfl (xZ F rfl) ?_));obtain rfl:=oj d;exact⟨rfl,H.bl⟩
def dE (N:Nat) (c:Template) (d:Instance) (e:List Line):Option ((List Int)×Int):=
 xY (zO N (Template.mk c.size c.rels) (Instance.mk d.vars d.cons) e) fun f=>
 if (f.2 != 0) then
  some ([],f.2)
 else
  kY (σ:=(List Int)) (
   qW (σ:=(List Int)) (ρ:=(List Int)×Int) (fun (t:Nat) (h:Line) (i:(List Int))=>
    if (h.kind==2) then
     xY (ap i ([h.con])) fun j=>
     some (.go j)
    else
     some (.go i)) e 0 []) fun n=>
  xY (lO n) fun p=>
  some (p,0)
theorem sE {B:Nat→Prop} {N:Nat} {Q:Template} {T:Instance} {i:List Line} (r:(List Int)×Int) (d:dE N Q T i=some r) {E:Value} {G:Value} {A:Value} (f:World) (hN:∀ c,B c→c<f.heap.size) (A0:Bo B f (aY 2 xL) E Q) (A1:Bo B f (aY 2 xO) G T) (I:Bo B f (Sl 4 qS) A i):Calls Tryz.prog 14 #[E,G,A] f (Gv (fun v w'=>∃ (O:Value),v= .tuple #[O,xF r.2]∧Sep [] B f w' [rl 1 xM 2 O r.1]∧xS r.2)):=by
 unfold dE at d
 refine xW (L:=[(0,E),(1,G),(2,A)]) func14 rfl rfl rfl (sc rfl (sc rfl (sc rfl sn))) (fun a F=>?_);have H:=Sep.start hN;refine xX ?_;obtain⟨v3,rfl,i1,h1⟩:=xL.o A0;refine oX F rfl rfl rfl H (fun a w b1 H F=>?_);obtain⟨an,rfl,i2,h2⟩:=xO.o A1;refine oX F rfl rfl rfl H fun a w b2 H F=>xA 2 F rfl fun a F=>xJ (xG (xX (lT qU oH F rfl rfl (H.b 1 rfl) rfl rfl fun a F=>lT vO oZ F rfl rfl (H.b 0 rfl) rfl rfl fun a F=>xA 1 F rfl fun a F=>?_)));obtain⟨z1,c1,d⟩:=xB d;refine oG F rfl call8 rfl (eL z1 c1 _ aA (xL.m i1 (H.a h1)) (xO.m i2 (H.a h2)) (H.a I)) (fun a J w ⟨ao,S,i3,i4⟩ F=>?_);subst J;have H:=H.r0 S;refine xA 5 F rfl fun a F=>zR (xA 2 F rfl fun a F=>?_);refine xJ (vK F rfl (fun C=>?_) (fun C=>?_))
 ·
  replace d:=zW C d;refine xX (xA 3 F rfl fun a F=>xJ (xP (qH (zS F rfl (xZ F rfl) (xZ F rfl) ?_))));obtain rfl:=oj d;exact⟨_,rfl,vH,rfl,((H.nl 1 xM 2).s [0] rfl rfl),i4⟩
 replace d:=zV C d;refine xT (xH (xX (oR0 (R:=xM) xC xI F rfl H fun a w v4 H F=>xA 1 F rfl fun a F=>xJ (xG (xX ?_)))));refine xA 1 F rfl fun a F=>oL qD F rfl rfl I fun a U F=>xA 1 F rfl fun a F=>xJ ?_;obtain⟨V,d,X⟩:=xV d;refine qG (fun a w=>∃ (K:List Int) (M:Value),V= .nx K∧Sk a 41 [(10,M)]∧Sep [] B f w [rl 1 xM 2 M K]) ?_ ?_
 ·
  refine qM ?_;obtain⟨Y,Z,d⟩:=vY d;refine vT (fun g a w=>∃ (j:Nat) (h:List Line) (n:List Int) (p:Value),(j≤i.length∧i.drop j=h)∧h.length=g∧qW Y h j n=some V∧Sk a 41 [(26,xF (j:Int)),(10,p),(24,A),(25,xF (i.length:Int))]∧Sep [] B f w [rl 1 xM 2 p n]) i.length ?_ ?_
  ·
   exact⟨0,i,[],v4,⟨Nat.zero_le _,rfl⟩,rfl,d,F.su,(H.s [0] rfl rfl)⟩
  intro g1 a w ⟨j,h,n,p,e,a0,d,F,H⟩
  cases h with
  | nil=>
   replace d:=vX d;have q1:=vZ e.1 e.2;have l1:=kW q1;refine xX (xA 1 F rfl fun a F=>xJ (xG (aC F rfl l1 (vU (vV (vV (bC ?_)))))));refine xH ?_;exact⟨n,p,(kQ d),F.su,H⟩
  | cons t h=>
   subst a0;replace e:=qY e.2;have y1:=zI e.2.1;obtain⟨aq,d,P⟩:=vE d;rw[Z] at d;have l1:=zT e.1;refine xX (xA 1 F rfl fun a F=>xJ (xG (aD F rfl l1 (xT (xH (xG ?_))))));have j1:=k64 (Nat.le_of_lt e.1) U;have W:=bG e.1 U;refine qM (xX (oI qD vD F rfl rfl rfl I y1 fun a p1 h3 F=>olA dI vD F rfl rfl H.sm h3 fun a v7 h4 F=>oA kC F rfl rfl H (fun a w b3 H F=>?_)));obtain⟨rfl,i6,i7,i8,i9⟩:=qS.o h4;refine gN (vs:=[xF t.kind,xF t.var,xF t.value,xF t.con]) vD F rfl rfl rfl H (oc rfl (oc rfl (oc rfl (oc rfl on)))) rfl rfl fun w H=>zR (oQ sR F rfl rfl rfl fun a F=>oB xN F rfl rfl (H.b 0 rfl) rfl fun a F=>xA 1 F rfl fun a F=>xJ (vK F rfl (fun D=>?_) (fun D=>?_)))
   ·
    replace d:=zW D d;refine oO (xA 1 F rfl fun a F=>oQ tV F rfl rfl rfl fun a F=>oB xN F rfl rfl (H.b 0 rfl) rfl fun a F=>iN (R:=xM) (y:=t.con) xC xI qQ rfl rfl F rfl rfl H (Eo.int i9) (fun a w v8 H F=>?_));obtain⟨z2,c2,d⟩:=xB d;refine oPL (sz:=1) (R:=xM) (z:=(xF 0)) (bytes:=8) xC (by kernel_rfl) rfl rfl F rfl rfl rfl (H.s [2,0,1] rfl rfl) c2 fun a w v9 H F=>xA 1 F rfl fun a F=>vP (zG (xH (oO (kO F rfl rfl rfl W fun a F=>xA 1 F rfl fun a F=>xJ ?_))));replace d:=aB d P;exact⟨_,Nat.lt_succ_self _,j+1,h,z2,v9,⟨e.1,e.2.2⟩,rfl,d,F.su,(H.s [0] rfl rfl)⟩
   replace d:=zV D d;refine xT (zG (xH (oO (kO F rfl rfl rfl W fun a F=>xA 1 F rfl fun a F=>xJ ?_))));replace d:=aB d P;exact⟨_,Nat.lt_succ_self _,j+1,h,n,p,⟨e.1,e.2.2⟩,rfl,d,F.su,(H.s [1] rfl rfl)⟩
 rintro a w ⟨K,M,rfl,F,H⟩
 have d:=oJ X;refine xH (xX (xA 1 F rfl fun a F=>?_));obtain⟨z3,c3,d⟩:=xB d;refine oG F rfl call39 rfl (wJ z3 c3 _ aA (H.l 0 rfl)) (fun a J w ⟨a1,ar,S⟩ F=>?_);subst J;have H:=H.r1 S n0;refine xA 2 F rfl fun a F=>xJ (xP (zS F rfl (xZ F rfl) (xZ F rfl) ?_));obtain rfl:=oj d;exact⟨_,rfl,a1,rfl,(H.s [0] rfl rfl),(show xS (0) by decide)⟩
def jD (c:Template) (d:Instance):Option solver:=
 kY (σ:=(List Atom)) (
  qW (σ:=(List Atom)) (ρ:=solver) (fun (n:Nat) (e:Con) (f:(List Atom))=>
   xY (ap f ([(Atom.mk e.rel e.scope)])) fun h=>
   some (.go h)) d.cons 0 []) fun i=>
 xY (iA (Template.mk c.size c.rels) d.vars i) fun j=>
 some j
theorem xAq {B:Nat→Prop} {p:Template} {f:Instance} (r:solver) (d:jD p f=some r) {E:Value} {G:Value} (h:World) (hN:∀ c,B c→c<h.heap.size) (A0:Bo B h (aY 2 xL) E p) (A1:Bo B h (aY 2 xO) G f):Calls Tryz.prog 44 #[E,G] h (Gv (fun v w'=>∃ (N:Value),v=N∧Sep [] B h w' [ro B (V:=(Pt 4 aU)) N r])):=by
 unfold jD at d
 refine xW (L:=[(0,E),(1,G)]) func44 rfl rfl rfl (sc rfl (sc rfl sn)) (fun a F=>?_);have H:=Sep.start hN;refine xX ?_;obtain⟨O,rfl,i1,h1⟩:=xL.o A0;refine oX F rfl rfl rfl H (fun a w t H F=>?_);obtain⟨D,rfl,i2,P⟩:=xO.o A1;refine oX F rfl rfl rfl H fun a w A H F=>xA 1 F rfl fun a F=>zR (oR0 (R:=kU) cJ eR F rfl H fun a w v3 H F=>xA 1 F rfl fun a F=>xJ (xG ?_));refine xX (oQ bU F rfl rfl rfl fun a F=>oB vR F rfl rfl (H.b 1 rfl) rfl fun a F=>oL oY F rfl rfl P fun a Q F=>xA 1 F rfl fun a F=>xJ ?_);obtain⟨T,d,U⟩:=xV d;refine qG (fun a w=>∃ (I:List Atom) (J:Value),T= .nx I∧Sk a 30 [(2,vA t),(3,vA A),(5,J)]∧Sep [] B h w [rw B 2 kU 140 J I,bx A [xF f.vars,D] 29,bx t [xF p.size,O] 26]) ?_ ?_
 ·
  refine qM ?_;obtain⟨W,X,d⟩:=vY d;refine vT (fun g a w=>∃ (j:Nat) (i:List Con) (C:List Atom) (n:Value),(j≤f.cons.length∧f.cons.drop j=i)∧i.length=g∧qW W i j C=some T∧Sk a 30 [(12,xF (j:Int)),(2,vA t),(3,vA A),(5,n),(10,D),(11,xF (f.cons.length:Int))]∧Sep [] B h w [rw B 2 kU 140 n C,bx A [xF f.vars,D] 29,bx t [xF p.size,O] 26]) f.cons.length ?_ ?_
  ·
   exact⟨0,f.cons,[],v3,⟨Nat.zero_le _,rfl⟩,rfl,d,F.su,H.lw.wk⟩
  intro g1 a w ⟨j,i,C,n,e,Y,d,F,H⟩
  cases i with
  | nil=>
   replace d:=vX d;have q1:=vZ e.1 e.2;have l1:=kW q1;refine xX (xA 1 F rfl fun a F=>xJ (xG (aC F rfl l1 (vU (vV (vV (bC ?_)))))));refine xH ?_;exact⟨C,n,(kQ d),F.su,H⟩
  | cons K i=>
   subst Y;replace e:=qY e.2;have y1:=zI e.2.1;obtain⟨aw,d,Z⟩:=vE d;rw[X] at d;have l1:=zT e.1;refine xX (xA 1 F rfl fun a F=>xJ (xG (aD F rfl l1 (xT (xH (xG ?_))))));have j1:=k64 (Nat.le_of_lt e.1) Q;have m1:=bG e.1 Q;refine qM (xX (oI oY zA F rfl rfl rfl P y1 fun a p1 h3 F=>olA iB zA F rfl rfl H.sm h3 fun a v5 h4 F=>oA zM F rfl rfl H (fun a w b3 H F=>?_)));obtain⟨v6,rfl,i4,M⟩:=qZ.o h4;refine gN (vs:=[xF K.rel,v6]) zA F rfl rfl rfl H (oc rfl (oc (H.a M).one on)) rfl rfl fun w H=>xJ (oO (xA 1 F rfl fun a F=>oQ tD F rfl rfl rfl fun a F=>oB xN F rfl rfl (H.b 0 rfl) rfl fun a F=>oQ gD F rfl rfl rfl fun a F=>oB qE F rfl rfl (H.b 0 rfl) rfl fun a F=>aX underlying140 mK (fun w=>by simp [xI,xU];rfl) F rfl rfl rfl rfl rfl (oc rfl (oc (H.a M).one on)) rfl rfl fun a F=>oR1 (R:=kU) (y:=(Atom.mk K.rel K.scope)) (N1:=B) cJ eR mK rfl rfl F rfl rfl H n1 (Eo.agg (kU.m i4 (H.u M))) (fun a w v7 H F=>?_)));obtain⟨z1,c1,d⟩:=xB d;refine oP (sz:=2) (R:=kU) (z:=(.agg #[xF 0,vH])) (bytes:=32) cJ (by kernel_rfl) rfl rfl F rfl rfl rfl (H.s [2,0,1,3,4] rfl rfl) c1 fun a w v8 H F=>xA 1 F rfl fun a F=>vP (zG (xH (oO (kO F rfl rfl rfl m1 fun a F=>xA 1 F rfl fun a F=>xJ ?_))));replace d:=aB d Z;exact⟨_,Nat.lt_succ_self _,j+1,i,z1,v8,⟨e.1,e.2.2⟩,rfl,d,F.su,(H.s [0,2,3] rfl rfl)⟩
 rintro a w ⟨I,J,rfl,F,H⟩
 have d:=oJ U;refine xH (xX (lT qU oH F rfl rfl (H.b 2 rfl) rfl rfl fun a F=>oQ gP F rfl rfl rfl fun a F=>oB xN F rfl rfl (H.b 1 rfl) rfl fun a F=>xA 1 F rfl fun a F=>?_));obtain⟨w1,rfl⟩:∃ x,x=w:=⟨_,rfl⟩;have ax:=H.sm;obtain⟨X1,N2,g2,e1,H,a0,ay⟩:=H.fza;have h6:=g2.rd;obtain⟨z2,c2,d⟩:=xB d;refine oG F rfl call78 rfl (xBv z2 c2 _ H.hN (xL.m i1 (H.u (e1 h1))) i2 (H.u h6)) (fun a vv w ⟨v9,az,S⟩ F=>?_);subst vv;have H:=H.r1 S n1;obtain⟨w2,rfl⟩:∃ x,x=w:=⟨_,rfl⟩;have b0:=H.sm;obtain⟨X2,N3,g3,e2,H,a1,b1⟩:=H.fza;have h7:=g3.rod;refine xA 1 F rfl fun a F=>xJ (xP ?_);have H:=H.rob h7;have H:=(a0.2.1 (a1.2.1 (H.s [0] rfl rfl) (Ns.all trivial)) (Ns.all trivial));refine xR F rfl (xZ F rfl) ?_;obtain rfl:=oj d;exact⟨_,rfl,v9,rfl,H⟩
def fQ (N:Nat) (d:solver) (c:List Int):Option ((List Int)×Bool):=
 kY (σ:=Unit) (
  qW (σ:=Unit) (ρ:=(List Int)×Bool) (fun (f:Nat) (n:Int) (s:Unit)=>
    match s with
    | _=>
    xY (ck ((f:Int)+1)) fun h=>
    xY (sl c 0 h) fun i=>
    xY (dK N d i) fun j=>
    if (!j) then
     some (.ret ([],false))
    else
     some (.go ())) c 0 ()) fun _=>
 xY (fS (fun a _=>some (false,a)) N d c ([])) fun e=>
 some (e.2,(!e.1))
theorem uY {B:Nat→Prop} {N:Nat} {K:solver} {i:List Int} (r:(List Int)×Bool) (d:fQ N K i=some r) {t:Value} {y:Value} (j:World) (W:∀ c,B c→c<j.heap.size) (M:Bo B j (Pt 4 aU) t K) (E:Bo B j (Sl 1 xM) y i):Calls Tryz.prog 45 #[t,y] j (Gv (fun v w'=>∃ (G:Value),v= .tuple #[G,.bool r.2]∧Sep [] B j w' [rl 1 xM 2 G r.1])):=by
 unfold fQ at d
 refine xW (L:=[(0,t),(1,y)]) func45 rfl rfl rfl (sc rfl (sc rfl sn)) (fun a F=>?_);have H:=Sep.start W;refine xX (xA 2 F rfl fun a F=>xJ (xG (xX (xA 1 F rfl fun a F=>oL xC F rfl rfl E (fun a O F=>?_)))));refine xA 1 F rfl fun a F=>xJ ?_;obtain⟨P,d,I⟩:=xV d;refine qG (fun a w=>P= .nx ()∧Sk a 29 [(0,t),(1,y)]∧Sep [] B j w []) ?_ ?_
 ·
  refine qM ?_;obtain⟨R,T,d⟩:=vY d;refine vT (fun g a w=>∃ (p:Nat) (n:List Int),(p≤i.length∧i.drop p=n)∧n.length=g∧qW R n p ()=some P∧Sk a 29 [(11,xF (p:Int)),(0,t),(1,y),(10,xF (i.length:Int))]∧Sep [] B j w []) i.length ?_ ?_
  ·
   exact⟨0,i,⟨Nat.zero_le _,rfl⟩,rfl,d,F.su,H⟩
  intro g1 a w ⟨p,n,e,U,d,F,H⟩
  cases n with
  | nil=>
   replace d:=vX d;have X:=vZ e.1 e.2;have l1:=kW X;refine xX (xA 1 F rfl fun a F=>xJ (xG (aC F rfl l1 (vU (vV (vV (bC ?_)))))));refine xH ?_;exact⟨(kQ d),F.su,H⟩
  | cons x2 n=>
   subst U;replace e:=qY e.2;have y1:=zI e.2.1;obtain⟨a7,d,J⟩:=vE d;rw[T] at d;have l1:=zT e.1;refine xX (xA 1 F rfl fun a F=>xJ (xG (aD F rfl l1 (xT (xH (xG ?_))))));have j1:=k64 (Nat.le_of_lt e.1) O;have Y:=bG e.1 O;refine qM (xX (xA 2 F rfl fun a F=>zR (xA 2 F rfl fun a F=>?_)));refine xA 1 F rfl fun a F=>?_;obtain⟨z1,Z,d⟩:=xB d;refine fF F rfl rfl rfl Z (fun a F=>?_);obtain⟨z2,c2,d⟩:=xB d;refine oC xC xI F rfl rfl rfl rfl E c2 (fun a v2 h1 F=>?_);obtain⟨z3,c3,d⟩:=xB d;refine oK F rfl call79 rfl H (pN z3 c3 _ aA (H.a M) (H.a h1)) fun a w H F=>xA 1 F rfl fun a F=>xJ (vK F rfl (fun D=>?_) (fun D=>?_))
   ·
    replace d:=zW D d;refine xX (xA 2 F rfl fun a F=>xJ (xP (zZ (qH (qH ?_)))));replace d:=bQ d J;refine zZ (qH ?_);replace d:=bR d I;refine qH (zS F rfl (xZ F rfl) (xZ F rfl) ?_);obtain rfl:=oj d;exact⟨_,rfl,vH,rfl,(H.nl 1 xM 2)⟩
   replace d:=zV D d;refine xT (zG (xH (oO (kO F rfl rfl rfl Y fun a F=>xA 1 F rfl fun a F=>xJ ?_))));replace d:=aB d J;exact⟨_,Nat.lt_succ_self _,p+1,n,⟨e.1,e.2.2⟩,rfl,d,F.su,H⟩
 rintro a w ⟨rfl,F,H⟩
 have d:=oJ I;refine xH (xX (oA cC F rfl rfl H fun a w C H F=>zR (xA 2 F rfl fun a F=>wZ F rfl rfl rfl (fun a F=>?_))));have H:=H.nl 1 xM 2;obtain⟨Q,c4,d⟩:=xB d;obtain⟨X1,K1,V⟩:=Sep.lend1 (A:=bI C ([])) (Sep.exI (f:=fun v=>pr (bx C [v] 46) (rl 1 xM 2 v ([]))) (b:=vH) ((H.s [1,0] rfl rfl)).mg);refine oG F rfl call80 rfl (xFa (fun _ _ h=>h) call81 (xQe C) N Q c4 _ K1 (H.u M) (H.u E)) (fun a vv w ⟨hv,S⟩ F=>?_);subst vv;obtain⟨v3,H⟩:=Sep.exE (f:=fun v=>pr (bx C [v] 46) (rl 1 xM 2 v Q.2)) (V S);have H:=H.um;refine xA 2 F rfl fun a F=>zR (oB qE F rfl rfl (H.b 0 rfl) rfl fun a F=>xA 3 F rfl fun a F=>vP ?_);refine xH (xP (zS F rfl (xZ F rfl) (xZ F rfl) ?_));obtain rfl:=oj d;exact⟨_,rfl,v3,rfl,(H.s [1] rfl rfl)⟩
def dL (N:Nat) (c:Template) (d:Instance):Option ((List Int)×Int):=
 xY (aS (Template.mk c.size c.rels) (Instance.mk d.vars d.cons)) fun f=>
 if (!f) then
  some ([],1)
 else
  xY (jD (Template.mk c.size c.rels) (Instance.mk d.vars d.cons)) fun h=>
  xY (fQ N h ([])) fun e=>
  if (!e.2) then
   some ([],6)
  else
   some (e.1,0)
theorem uF {B:Nat→Prop} {N:Nat} {y:Template} {A:Instance} (r:(List Int)×Int) (d:dL N y A=some r) {i:Value} {j:Value} (e:World) (I:∀ c,B c→c<e.heap.size) (J:Bo B e (aY 2 xL) i y) (K:Bo B e (aY 2 xO) j A):Calls Tryz.prog 17 #[i,j] e (Gv (fun v w'=>∃ (t:Value),v= .tuple #[t,xF r.2]∧Sep [] B e w' [rl 1 xM 2 t r.1]∧xS r.2)):=by
 unfold dL at d
 refine xW (L:=[(0,i),(1,j)]) func17 rfl rfl rfl (sc rfl (sc rfl sn)) (fun a F=>?_);have H:=Sep.start I;refine xX ?_;obtain⟨v2,rfl,C,D⟩:=xL.o J;refine oX F rfl rfl rfl H (fun a w b1 H F=>?_);obtain⟨X,rfl,E,G⟩:=xO.o K;refine oX F rfl rfl rfl H fun a w b2 H F=>xA 2 F rfl fun a F=>xJ (xG (xX (lT qU oH F rfl rfl (H.b 1 rfl) rfl rfl fun a F=>lT vO oZ F rfl rfl (H.b 0 rfl) rfl rfl (fun a F=>?_))));obtain⟨M,O,d⟩:=xB d;refine oK F rfl call34 rfl H (jC M O _ aA (xL.m C (H.a D)) (xO.m E (H.a G))) fun a w H F=>xA 1 F rfl fun a F=>xJ (vK F rfl (fun f=>?_) (fun f=>?_))
 ·
  replace d:=zW f d;refine xX (xA 2 F rfl fun a F=>xJ (xP (qH (zS F rfl (xZ F rfl) (xZ F rfl) ?_))));obtain rfl:=oj d;exact⟨_,rfl,vH,rfl,((H.nl 1 xM 2).s [0] rfl rfl),(show xS (1) by decide)⟩
 replace d:=zV f d;refine xT (xH (xX (lT qU oH F rfl rfl (H.b 1 rfl) rfl rfl fun a F=>lT vO oZ F rfl rfl (H.b 0 rfl) rfl rfl (fun a F=>?_))));obtain⟨P,Q,d⟩:=xB d;refine oG F rfl call44 rfl (xAq P Q _ H.hN (xL.m C (H.u D)) (xO.m E (H.u G))) (fun a n w ⟨v3,Y,S⟩ F=>?_);subst n;have H:=H.r1 S n1;obtain⟨w1,rfl⟩:∃ x,x=w:=⟨_,rfl⟩;have Z:=H.sm;obtain⟨X1,N1,R,e1,H,p,a0⟩:=H.fza;have T:=R.rod;obtain⟨U,V,d⟩:=xB d;refine oG F rfl call45 rfl (uY U V _ aA (H.a T) Bo.snil) (fun a n w ⟨W,a1,S⟩ F=>?_);subst n;have H:=H.r1 S n0;refine xA 5 F rfl fun a F=>xJ (xG (xX (xA 1 F rfl fun a F=>?_)));refine xA 1 F rfl fun a F=>xJ (vK F rfl (fun h=>?_) (fun h=>?_))
 ·
  replace d:=zW h d;refine xX (xA 2 F rfl fun a F=>xJ (xP (qH ?_)));have H:=(p.1 H (Ns.all ⟨n0,⟨n0,⟨n0,trivial⟩⟩⟩));refine zS F rfl (xZ F rfl) (xZ F rfl) ?_;obtain rfl:=oj d;exact⟨_,rfl,vH,rfl,((H.nl 1 xM 2).s [0] rfl rfl),(show xS (6) by decide)⟩
 replace d:=zV h d;refine xT (xH (xX (xA 3 F rfl fun a F=>xJ (xP ?_))));have H:=(p.1 H (Ns.all ⟨n0,⟨n0,⟨n0,trivial⟩⟩⟩));refine zS F rfl (xZ F rfl) (xZ F rfl) ?_;obtain rfl:=oj d;exact⟨_,rfl,W,rfl,(H.s [1] rfl rfl),(show xS (0) by decide)⟩
end Go.Proofs.YtfmnjkpddljdcaaGreatDoor
