import Derived.Test.YtghihmkhdhjhiaaGreatDoorNG
import Derived.Test.YtghihmkhdhjhiaaGreatDoorZ
import Derived.Test.YtghihmkhdhjhiaaGreatDoorNM
namespace Go.Proofs.YtghihmkhdhjhiaaGreatDoor
open Go.Proofs.Tryz
set_option maxHeartbeats 1000000
set_option linter.unusedVariables false
set_option linter.unusedSimpArgs false
open Go.RowKit
end Go.Proofs.YtghihmkhdhjhiaaGreatDoor
namespace Go.Proofs.YtghihmkhdhjhiaaGreatDoor
open Go.Proofs.Tryz
set_option linter.unusedVariables false
set_option linter.unusedSimpArgs false
set_option maxRecDepth 100000
open Go.RowKit
def kD (c d e:Int):Option Bool:=
 zW (σ:=Bool) (
  if (decide (d≤c)) then  some (.nx (decide (c≤e))) else  some (.nx false)) fun f=>
 some f
theorem aJ {B:Nat→Prop} {e h i:Int} (r:Bool) (d:kD e h i=some r)  (j:World) (t:∀ c,B c→c<j.heap.size) (y:xO e) (A:xO h) (C:xO i):Calls Tryz.prog 47 #[xC e,xC h,xC i] j (kU (.bool r) j):=by
 unfold kD at d
 refine xW (L:=[(0,xC e),(1,xC h),(2,xC i)]) func47 rfl rfl rfl (sc rfl (sc rfl (sc rfl sn))) (fun a F=>?_);have H:=Sep.start t;refine xV (xA 1 F rfl fun a F=>xG (xF ?_));obtain⟨x,d,p⟩:=xT d;refine oR (fun a w=>∃ (n:Bool),x= .nx n∧Sk a 15 [(6,.bool n)]∧Sep [] B j w []) ?_ ?_
 ·
  refine oM (xA 4 F rfl fun a F=>?_)
  rcases vJ (decide (h≤e)) with f | f
  ·
   replace d:=vY f d;have F:=F.eb 10 rfl f;refine xA 5 F rfl fun a F=>xG ?_;exact⟨(decide (e≤i)),(zL d),F.su,H⟩
  replace d:=vX f d;have F:=F.eb 10 rfl f;refine xA 5 F rfl fun a F=>xG ?_;exact⟨false,(zL d),F.su,H⟩
 rintro a w ⟨n,rfl,F,H⟩
 have d:=xY p;refine xH (xP (xR F rfl (xX F rfl) ?_));obtain rfl:=oj d;exact⟨rfl,H.bl⟩
def gE (c:Int):Option Bool:=
 xZ (kD c 1 4) fun d=>
 some d
theorem pX {B:Nat→Prop} {d:Int} (r:Bool) (e:gE d=some r)  (f:World) (i:∀ c,B c→c<f.heap.size) (h:xO d):Calls Tryz.prog 115 #[xC d] f (kU (.bool r) f):=by
 unfold gE at e
 refine xW (L:=[(0,xC d)]) func115 rfl rfl rfl (sc rfl sn) (fun a F=>?_);have H:=Sep.start i;refine xV (xA 1 F rfl fun a F=>vE (xA 1 F rfl fun a F=>?_));obtain⟨j,n,e⟩:=xB e;refine oK F rfl call47 rfl H (aJ j n _ aA h (show xO (1) by decide) (show xO (4) by decide)) fun a w H F=>xA 1 F rfl fun a F=>xG (xP (xR F rfl (xX F rfl) ?_));obtain rfl:=oj e;exact⟨rfl,H.bl⟩
def gW (c:Int):Option Bool:=
 xZ (kD c 1 4) fun d=>
 some d
theorem wQ {B:Nat→Prop} {d:Int} (r:Bool) (e:gW d=some r)  (f:World) (i:∀ c,B c→c<f.heap.size) (h:xO d):Calls Tryz.prog 144 #[xC d] f (kU (.bool r) f):=by
 unfold gW at e
 refine xW (L:=[(0,xC d)]) func144 rfl rfl rfl (sc rfl sn) (fun a F=>?_);have H:=Sep.start i;refine xV (xA 1 F rfl fun a F=>vE (xA 1 F rfl fun a F=>?_));obtain⟨j,n,e⟩:=xB e;refine oK F rfl call47 rfl H (aJ j n _ aA h (show xO (1) by decide) (show xO (4) by decide)) fun a w H F=>xA 1 F rfl fun a F=>xG (xP (xR F rfl (xX F rfl) ?_));obtain rfl:=oj e;exact⟨rfl,H.bl⟩
def cZ (c d:Int):Option Bool:=
 xZ (ck (c - 1)) fun e=>
 xZ (kD d 0 e) fun f=>
 some f
theorem yI {B:Nat→Prop} {e f:Int} (r:Bool) (d:cZ e f=some r)  (h:World) (n:∀ c,B c→c<h.heap.size) (x:xO e) (j:xO f):Calls Tryz.prog 95 #[xC e,xC f] h (kU (.bool r) h):=by
 unfold cZ at d
 refine xW (L:=[(0,xC e),(1,xC f)]) func95 rfl rfl rfl (sc rfl (sc rfl sn)) (fun a F=>?_);have H:=Sep.start n;refine xV (xA 1 F rfl fun a F=>vE (xA 2 F rfl fun a F=>?_));obtain⟨y,i,d⟩:=xB d;refine fL F rfl rfl rfl i (fun a F=>?_);obtain⟨p,t,d⟩:=xB d;refine oK F rfl call47 rfl H (aJ p t _ aA j (show xO (0) by decide) (kQ i)) fun a w H F=>xA 1 F rfl fun a F=>xG (xP (xR F rfl (xX F rfl) ?_));obtain rfl:=oj d;exact⟨rfl,H.bl⟩
def aU (c d:Int):Option Bool:=
 xZ (cZ d c) fun e=>
 some ((!e))
theorem rH {B:Nat→Prop} {d i:Int} (r:Bool) (e:aU d i=some r) {h:Value} (f:World) (n:∀ c,B c→c<f.heap.size) (j:xO d) (p:Bo B f (Pt 1 xI) h i):Calls Tryz.prog 94 #[xC d,h] f (kU (.bool r) f):=by
 unfold aU at e
 refine xW (L:=[(0,xC d),(1,h)]) func94 rfl rfl rfl (sc rfl (sc rfl sn)) (fun a F=>?_);have H:=Sep.start n;refine xV (xA 1 F rfl fun a F=>vE (olI isAgg2 F rfl rfl H.sm p fun a t F=>xA 1 F rfl fun a F=>?_));obtain⟨x,y,e⟩:=xB e;refine oK F rfl call95 rfl H (yI x y _ aA t j) fun a w H F=>xA 2 F rfl fun a F=>xG (xP (xR F rfl (xX F rfl) ?_));obtain rfl:=oj e;exact⟨rfl,H.bl⟩
def vD (c:List Int) (d:Int→Option Bool):Option Int:=
 zW (σ:=Unit) (
  qR (σ:=Unit) (ρ:=Int) (fun (e:Nat) (f:Int) (s:Unit)=>
    match s with
    | _=>
    xZ (d f) fun h=>
    if h then
     some (.ret ((e:Int)))
    else
     some (.go ())) c 0 ()) fun _=>
 some ((-1))
theorem cV {B:Nat→Prop} {h:List Int} {D:Int→Option Bool} (r:Int) (d:vD h D=some r) {t:Value} {j:FuncId} {p:List Value} (f:World) (Q:∀ c,B c→c<f.heap.size) (E:Bo B f (Sl 1 xI) t h) (J:∀ args w,(callFunc j args).run Tryz.prog w= .ok (.enter j args) w) (K:∀ (y:Int) (r:Bool),D y=some r→∀ W,Below f.heap.size f W→xO y→Calls Tryz.prog j ([xC y]++p:List Value).toArray W (kU (.bool r) W)):Calls Tryz.prog 128 #[t,.func (.func j) #[] p.toArray] f (gF r f):=by
 unfold vD at d
 refine xW (L:=[(0,t),(1,.func (.func j) #[] p.toArray)]) func128 rfl rfl rfl (sc rfl (sc rfl sn)) (fun a F=>?_);have H:=Sep.start Q;refine xV (xA 1 F rfl fun a F=>xG (xF (xV (xA 1 F rfl fun a F=>oL underlying32 F rfl rfl E fun a G F=>xA 1 F rfl fun a F=>?_))));refine xG ?_;obtain⟨I,d,A⟩:=xT d;refine oR (fun a w=>I= .nx ()∧Sk a 19 []∧Sep [] B f w []) ?_ ?_
 ·
  refine oQ ?_;obtain⟨M,N,d⟩:=qZ d;refine qY (fun g a w=>∃ (n:Nat) (i:List Int),(n≤h.length∧h.drop n=i)∧i.length=g∧qR M i n ()=some I∧Sk a 19 [(8,xC (n:Int)),(0,t),(1,.func (.func j) #[] p.toArray),(7,xC (h.length:Int))]∧Sep [] B f w []) h.length ?_ ?_
  ·
   exact⟨0,h,⟨Nat.zero_le _,rfl⟩,rfl,d,F.su,H⟩
  intro g2 a w ⟨n,i,e,O,d,F,H⟩
  cases i with
  | nil=>
   replace d:=vA d;have R:=vC e.1 e.2;have l1:=zK R;refine xV (xA 1 F rfl fun a F=>xG (xF (zS F rfl l1 (qV (qX (qX (kF ?_)))))));refine xH ?_;exact⟨(zL d),F.sub sn,H⟩
  | cons x2 i=>
   subst O;replace e:=qE e.2;have S:=vH e.2.1;obtain⟨Z,d,C⟩:=qM d;rw[N] at d;have l1:=vR e.1;refine xV (xA 1 F rfl fun a F=>xG (xF (zQ F rfl l1 (xS (xH (xF ?_))))));have T:=k64 (Nat.le_of_lt e.1) G;have U:=kO e.1 G;refine oQ (xV (xA 2 F rfl fun a F=>vE (xA 2 F rfl fun a F=>?_)));refine xA 1 F rfl fun a F=>oI underlying32 sizeOf2 F rfl rfl rfl E S fun a p1 V F=>olI isAgg2 F rfl rfl H.sm V (fun a P F=>?_);obtain⟨X,Y,d⟩:=xB d;refine oKV F rfl rfl J rfl H (K _ X Y _ H.bl P) fun a w H F=>xG (qS F rfl (fun x=>?_) (fun x=>?_))
   ·
    replace d:=vY x d;refine xV (xA 2 F rfl fun a F=>xG (xP (vO (oJ (oJ ?_)))));replace d:=kK d C;refine vO (oJ ?_);replace d:=kI d A;refine oJ (xR F rfl (xX F rfl) ?_);obtain rfl:=oj d;exact⟨⟨rfl,H.bl⟩,T⟩
   replace d:=vX x d;refine xS (vK (xH (oM (zG F rfl rfl rfl U fun a F=>xA 1 F rfl fun a F=>xG ?_))));replace d:=zM d C;exact⟨_,Nat.lt_succ_self _,n+1,i,⟨e.1,e.2.2⟩,rfl,d,F.su,H⟩
 rintro a w ⟨rfl,F,H⟩
 have d:=xY A;refine xH (xV (xA 1 F rfl fun a F=>xG (xP (xR F rfl (xX F rfl) ?_))));obtain rfl:=oj d;exact⟨⟨rfl,H.bl⟩,(show xO (-1) by decide)⟩
def qT (c:List Int) (d:Int→Option Bool):Option Bool:=
 xZ (vD c d) fun e=>
 some ((decide (0≤e)))
theorem bQ {B:Nat→Prop} {p:List Int} {t:Int→Option Bool} (r:Bool) (i:qT p t=some r) {n:Value} {e:FuncId} {j:List Value} (d:World) (A:∀ c,B c→c<d.heap.size) (C:Bo B d (Sl 1 xI) n p) (x:∀ args w,(callFunc e args).run Tryz.prog w= .ok (.enter e args) w) (y:∀ (f:Int) (r:Bool),t f=some r→∀ W,Below d.heap.size d W→xO f→Calls Tryz.prog e ([xC f]++j:List Value).toArray W (kU (.bool r) W)):Calls Tryz.prog 93 #[n,.func (.func e) #[] j.toArray] d (kU (.bool r) d):=by
 unfold qT at i
 refine xW (L:=[(0,n),(1,.func (.func e) #[] j.toArray)]) func93 rfl rfl rfl (sc rfl (sc rfl sn)) (fun a F=>?_);have H:=Sep.start A;refine xV (xA 1 F rfl fun a F=>vE (xA 2 F rfl fun a F=>?_));obtain⟨D,E,i⟩:=xB i;refine oKI F rfl call128 rfl H (cV D E _ aA (H.a C) x (fun f r h W l1=>y f r h W (H.bl.trans (l1.mono H.fr.size)))) fun a w H G F=>xA 2 F rfl fun a F=>xG (xP (xR F rfl (xX F rfl) ?_));obtain rfl:=oj i;exact⟨rfl,H.bl⟩
def zO (d:Int) (c:List Int) (e:Int):Option Bool:=
 zW (σ:=Bool) (
  if ((c.length:Int)==e) then  xZ (qT c (fun f=>aU f d)) fun h=>
   some (.nx (!h)) else  some (.nx false)) fun i=>
 some i
theorem fB {B:Nat→Prop} {j:Int} {n:List Int} {f:Int} (r:Bool) (d:zO j n f=some r) {p:Value} (i:World) (E:∀ c,B c→c<i.heap.size) (A:xO j) (x:Bo B i (Sl 1 xI) p n) (I:xO f):Calls Tryz.prog 53 #[xC j,p,xC f] i (kU (.bool r) i):=by
 unfold zO at d
 refine xW (L:=[(0,xC j),(1,p),(2,xC f)]) func53 rfl rfl rfl (sc rfl (sc rfl (sc rfl sn))) (fun a F=>?_);have H:=Sep.start E;refine xV (oX F rfl rfl rfl H fun a w J H F=>xA 1 F rfl fun a F=>xG (xF ?_));obtain⟨C,d,D⟩:=xT d;refine oR (fun a w=>∃ (t:Bool),C= .nx t∧Sk a 17 [(6,.bool t)]∧Sep [] B i w []) ?_ ?_
 ·
  refine oM (xA 1 F rfl fun a F=>oL underlying32 F rfl rfl x fun a K F=>xA 3 F rfl fun a F=>?_)
  rcases vJ ((n.length:Int)==f) with e | e
  ·
   replace d:=vY e d;have F:=F.eb 11 rfl e;refine xA 1 F rfl fun a F=>rF F rfl rfl rfl (fun a F=>?_);obtain⟨y,G,d⟩:=xB d;refine oK F rfl call93 rfl H (bQ y G _ aA (H.a x) call94 (fun M r h W l1 f0=>rH r h W aA f0 ((c1I (H.g 0 rfl).bk A).w l1))) fun a w H F=>xA 3 F rfl fun a F=>xG ?_;exact⟨(!y),(zL d),F.su,(H.s [] rfl rfl)⟩
  replace d:=vX e d;have F:=F.eb 11 rfl e;refine xA 6 F rfl fun a F=>xG ?_;exact⟨false,(zL d),F.su,(H.s [] rfl rfl)⟩
 rintro a w ⟨t,rfl,F,H⟩
 have d:=xY D;refine xH (xP (xR F rfl (xX F rfl) ?_));obtain rfl:=oj d;exact⟨rfl,H.bl⟩
def eC (c:Int):Option Bool:=
 some ((c != c))
theorem jY {B:Nat→Prop} {d:Int} (r:Bool) (f:eC d=some r)  (e:World) (h:∀ c,B c→c<e.heap.size) (i:xO d):Calls Tryz.prog 164 #[xC d] e (kU (.bool r) e):=by
 unfold eC at f
 refine xW (L:=[(0,xC d)]) func164 rfl rfl rfl (sc rfl sn) (fun a F=>?_);have H:=Sep.start h;refine xV (xA 1 F rfl fun a F=>vE (xA 4 F rfl fun a F=>?_));refine xG (xP (xR F rfl (xX F rfl) ?_));obtain rfl:=oj f;exact⟨rfl,H.bl⟩
def bF (c d:Int):Option Int:=
 xZ (eC c) fun f=>
 xZ (eC d) fun e=>
 if f then
  if e then
   some 0
  else
   some ((-1))
 else
  if e then
   some 1
  else
   if (decide (c<d)) then
    some ((-1))
   else
    if (decide (d<c)) then
     some 1
    else
     some 0
theorem pQ {B:Nat→Prop} {e f:Int} (r:Int) (d:bF e f=some r)  (t:World) (A:∀ c,B c→c<t.heap.size) (x:xO e) (y:xO f):Calls Tryz.prog 149 #[xC e,xC f] t (gF r t):=by
 unfold bF at d
 refine xW (L:=[(0,xC e),(1,xC f)]) func149 rfl rfl rfl (sc rfl (sc rfl sn)) (fun a F=>?_);have H:=Sep.start A;refine xV (xA 1 F rfl fun a F=>vE (xA 1 F rfl fun a F=>?_));obtain⟨C,D,d⟩:=xB d;refine oK F rfl call164 rfl H (jY C D _ aA x) fun a w H F=>xA 1 F rfl fun a F=>vE (xA 1 F rfl fun a F=>?_);obtain⟨E,G,d⟩:=xB d;refine oK F rfl call164 rfl H (jY E G _ aA y) fun a w H F=>xA 1 F rfl fun a F=>xG (xF (xV (xA 1 F rfl fun a F=>xG (qS F rfl (fun i=>?_) (fun i=>?_)))))
 ·
  replace d:=vY i d;refine xF (xV (xA 1 F rfl fun a F=>xG (qS F rfl (fun h=>?_) (fun h=>?_))))
  ·
   replace d:=vY h d;refine xV (xA 1 F rfl fun a F=>xG (xP (oJ (oJ (xR F rfl (xX F rfl) ?_)))));obtain rfl:=oj d;exact⟨⟨rfl,H.bl⟩,(show xO (0) by decide)⟩
  replace d:=vX h d;refine xS (xH (xV (xA 1 F rfl fun a F=>xG (xP (oJ (xR F rfl (xX F rfl) ?_))))));obtain rfl:=oj d;exact⟨⟨rfl,H.bl⟩,(show xO (-1) by decide)⟩
 replace d:=vX i d;refine xS (xH (xF (xV (xA 1 F rfl fun a F=>xG (qS F rfl (fun j=>?_) (fun j=>?_))))))
 ·
  replace d:=vY j d;refine xV (xA 1 F rfl fun a F=>xG (xP (oJ (xR F rfl (xX F rfl) ?_))));obtain rfl:=oj d;exact⟨⟨rfl,H.bl⟩,(show xO (1) by decide)⟩
 replace d:=vX j d;refine xS (xH (xF (xV (xA 3 F rfl fun a F=>xG (qS F rfl (fun n=>?_) (fun n=>?_))))))
 ·
  replace d:=vY n d;refine xV (xA 1 F rfl fun a F=>xG (xP (oJ (xR F rfl (xX F rfl) ?_))));obtain rfl:=oj d;exact⟨⟨rfl,H.bl⟩,(show xO (-1) by decide)⟩
 replace d:=vX n d;refine xS (xH (xF (xV (xA 3 F rfl fun a F=>xG (qS F rfl (fun p=>?_) (fun p=>?_))))))
 ·
  replace d:=vY p d;refine xV (xA 1 F rfl fun a F=>xG (xP (oJ (xR F rfl (xX F rfl) ?_))));obtain rfl:=oj d;exact⟨⟨rfl,H.bl⟩,(show xO (1) by decide)⟩
 replace d:=vX p d;refine xS (xH (xV (xA 1 F rfl fun a F=>xG (xP (xR F rfl (xX F rfl) ?_)))));obtain rfl:=oj d;exact⟨⟨rfl,H.bl⟩,(show xO (0) by decide)⟩
def zC (d c:List Int):Option Int:=
 zW (σ:=Unit) (
  qR (σ:=Unit) (ρ:=Int) (fun (e:Nat) (h:Int) (s:Unit)=>
    match s with
    | _=>
    if (decide ((c.length:Int)≤(e:Int))) then
     some (.ret 1)
    else
     xZ (ix c (e:Int)) fun i=>
     xZ (bF h i) fun f=>
     if (f != 0) then
      some (.ret f)
     else
      some (.go ())) d 0 ()) fun _=>
 if (decide ((d.length:Int)<(c.length:Int))) then
  some ((-1))
 else
  some 0
theorem dP {B:Nat→Prop} {h G:List Int} (r:Int) (d:zC h G=some r) {j:Value} {p:Value} (i:World) (P:∀ c,B c→c<i.heap.size) (D:Bo B i (Sl 1 xI) j h) (E:Bo B i (Sl 1 xI) p G):Calls Tryz.prog 131 #[j,p] i (gF r i):=by
 unfold zC at d
 refine xW (L:=[(0,j),(1,p)]) func131 rfl rfl rfl (sc rfl (sc rfl sn)) (fun a F=>?_);have H:=Sep.start P;refine xV (xA 1 F rfl fun a F=>xG (xF (xV (xA 1 F rfl fun a F=>oL underlying32 F rfl rfl D fun a I F=>xA 1 F rfl fun a F=>?_))));refine xG ?_;obtain⟨J,d,t⟩:=xT d;refine oR (fun a w=>J= .nx ()∧Sk a 36 [(0,j),(1,p)]∧Sep [] B i w []) ?_ ?_
 ·
  refine oQ ?_;obtain⟨K,M,d⟩:=qZ d;refine qY (fun g a w=>∃ (n:Nat) (f:List Int),(n≤h.length∧h.drop n=f)∧f.length=g∧qR K f n ()=some J∧Sk a 36 [(11,xC (n:Int)),(0,j),(1,p),(9,j),(10,xC (h.length:Int))]∧Sep [] B i w []) h.length ?_ ?_
  ·
   exact⟨0,h,⟨Nat.zero_le _,rfl⟩,rfl,d,F.su,H⟩
  intro g1 a w ⟨n,f,e,N,d,F,H⟩
  cases f with
  | nil=>
   replace d:=vA d;have Q:=vC e.1 e.2;have l1:=zK Q;refine xV (xA 1 F rfl fun a F=>xG (xF (zS F rfl l1 (qV (qX (qX (kF ?_)))))));refine xH ?_;exact⟨(zL d),F.su,H⟩
  | cons x2 f=>
   subst N;replace e:=qE e.2;have R:=vH e.2.1;obtain⟨a0,d,x⟩:=qM d;rw[M] at d;have l1:=vR e.1;refine xV (xA 1 F rfl fun a F=>xG (xF (zQ F rfl l1 (xS (xH (xF ?_))))));have j1:=k64 (Nat.le_of_lt e.1) I;have S:=kO e.1 I;refine oQ (xV (xA 1 F rfl fun a F=>oI underlying32 sizeOf2 F rfl rfl rfl D R fun a p1 T F=>olI isAgg2 F rfl rfl H.sm T fun a U F=>xA 2 F rfl fun a F=>xG (xF ?_)));refine xV (xA 2 F rfl fun a F=>oL underlying32 F rfl rfl E fun a i3 F=>xA 1 F rfl fun a F=>xG (qS F rfl (fun y=>?_) (fun y=>?_)))
   ·
    replace d:=vY y d;refine xV (xA 1 F rfl fun a F=>xG (xP (oJ (vO (oJ (oJ ?_))))));replace d:=kK d x;refine vO (oJ ?_);replace d:=kI d t;refine oJ (xR F rfl (xX F rfl) ?_);obtain rfl:=oj d;exact⟨⟨rfl,H.bl⟩,(show xO (1) by decide)⟩
   replace d:=vX y d;refine xS (xH (xV (xA 2 F rfl fun a F=>?_)));obtain⟨z1,V,d⟩:=xB d;refine oI underlying32 sizeOf2 F rfl rfl rfl E V fun a p2 W F=>olI isAgg2 F rfl rfl H.sm W fun a X F=>xA 1 F rfl fun a F=>vE (xA 2 F rfl fun a F=>?_);obtain⟨Y,Z,d⟩:=xB d;refine oKI F rfl call149 rfl H (pQ Y Z _ aA U X) fun a w H O F=>xA 1 F rfl fun a F=>vE (xA 2 F rfl fun a F=>xG (qS F rfl (fun A=>?_) (fun A=>?_)))
   ·
    replace d:=vY A d;refine xV (xA 2 F rfl fun a F=>xG (xP (vO (oJ (oJ ?_)))));replace d:=kK d x;refine vO (oJ ?_);replace d:=kI d t;refine oJ (xR F rfl (xX F rfl) ?_);obtain rfl:=oj d;exact⟨⟨rfl,H.bl⟩,O⟩
   replace d:=vX A d;refine xS (vK (xH (oM (zG F rfl rfl rfl S fun a F=>xA 1 F rfl fun a F=>xG ?_))));replace d:=zM d x;exact⟨_,Nat.lt_succ_self _,n+1,f,⟨e.1,e.2.2⟩,rfl,d,F.su,H⟩
 rintro a w ⟨rfl,F,H⟩
 have d:=xY t;refine xH (xF (xV (xA 1 F rfl fun a F=>oL underlying32 F rfl rfl D fun a i5 F=>xA 1 F rfl fun a F=>oL underlying32 F rfl rfl E fun a i6 F=>xA 1 F rfl fun a F=>xG ?_)));refine qS F rfl (fun C=>?_) (fun C=>?_)
 ·
  replace d:=vY C d;refine xV (xA 1 F rfl fun a F=>xG (xP (oJ (xR F rfl (xX F rfl) ?_))));obtain rfl:=oj d;exact⟨⟨rfl,H.bl⟩,(show xO (-1) by decide)⟩
 replace d:=vX C d;refine xS (xH (xV (xA 1 F rfl fun a F=>xG (xP (xR F rfl (xX F rfl) ?_)))));obtain rfl:=oj d;exact⟨⟨rfl,H.bl⟩,(show xO (0) by decide)⟩
def bT (d:Int) (c:Rel):Option Bool:=
 zW (σ:=Bool) (
  xZ (gE d) fun h=>
  if (!h) then  some (.nx true) else  xZ (gW c.arity) fun i=>
   some (.nx (!i))) fun j=>
 if j then
  some false
 else
  zW (σ:=Unit) (
   qR (σ:=Unit) (ρ:=Bool) (fun (e:Nat) (f:(List Int)) (s:Unit)=>
     match s with
     | _=>
     zW (σ:=Bool) (
      xZ (zO d f c.arity) fun n=>
      if (!n) then  some (.nx true) else  if (decide (0<(e:Int))) then  xZ (ck ((e:Int) - 1)) fun p=>
        xZ (ix c.tuples p) fun t=>
        xZ (zC t f) fun x=>
        some (.nx (decide (0≤x))) else  some (.nx false)) fun y=>
     if y then
      some (.ret false)
     else
      some (.go ())) c.tuples 0 ()) fun _=>
  some true
theorem tM {B:Nat→Prop} {j:Int} {e:Rel} (r:Bool) (d:bT j e=some r) {E:Value} (h:World) (hN:∀ c,B c→c<h.heap.size) (K:xO j) (A1:Bo B h (kJ 2 qG) E e):Calls Tryz.prog 118 #[xC j,E] h (kU (.bool r) h):=by
 unfold bT at d
 refine xW (L:=[(0,xC j),(1,E)]) func118 rfl rfl rfl (sc rfl (sc rfl sn)) (fun a F=>?_);have H:=Sep.start hN;refine xV ?_;obtain⟨A,rfl,O,G⟩:=qG.o A1;refine oX F rfl rfl rfl H fun a w p H F=>xA 1 F rfl fun a F=>xG (xF (xF ?_));obtain⟨o1,d,W⟩:=xT d;refine oR (fun a w=>∃ (I:Bool),o1= .nx I∧Sk a 46 [(0,xC j),(3,qC p),(15,.bool I)]∧Sep [] B h w [bx p [xC e.arity,A] 57]) ?_ ?_
 ·
  refine oM (xA 1 F rfl fun a F=>?_);obtain⟨P,c1,d⟩:=xB d;refine oK F rfl call115 rfl H (pX P c1 _ aA K) fun a w H F=>xA 2 F rfl fun a F=>?_
  rcases vJ (!P) with t | t
  ·
   replace d:=vY t d;have F:=F.eb 10 rfl t;refine xA 5 F rfl fun a F=>xG ?_;exact⟨true,(zL d),F.su,H⟩
  replace d:=vX t d;have F:=F.eb 10 rfl t;refine oD mM F rfl rfl rfl fun a F=>oB isAgg2 F rfl rfl (H.b 0 rfl) rfl (fun a F=>?_);obtain⟨Q,c2,d⟩:=xB d;refine oK F rfl call144 rfl H (wQ Q c2 _ aA O) fun a w H F=>xA 2 F rfl fun a F=>xG ?_;exact⟨(!Q),(zL d),F.su,H⟩
 rintro a w ⟨I,rfl,F,H⟩
 have d:=xY W;refine xH (qS F rfl (fun C=>?_) (fun C=>?_))
 ·
  replace d:=vY C d;refine xV (xA 1 F rfl fun a F=>xG (xP (oJ (xR F rfl (xX F rfl) ?_))));obtain rfl:=oj d;exact⟨rfl,H.bl⟩
 replace d:=vX C d;refine xS (xH (xF (xV (oD bJ F rfl rfl rfl fun a F=>oB isAgg55 F rfl rfl (H.b 0 rfl) rfl fun a F=>oL underlying55 F rfl rfl G fun a R F=>xA 1 F rfl fun a F=>xG ?_))));obtain⟨S,d,M⟩:=xT d;refine oR (fun a w=>S= .nx ()∧Sk a 46 []∧Sep [] B h w []) ?_ ?_
 ·
  refine oQ ?_;obtain⟨X,Y,d⟩:=qZ d;refine qY (fun g a w=>∃ (i:Nat) (n:List (List Int)),(i≤e.tuples.length∧e.tuples.drop i=n)∧n.length=g∧qR X n i ()=some S∧Sk a 46 [(19,xC (i:Int)),(0,xC j),(3,qC p),(17,A),(18,xC (e.tuples.length:Int))]∧Sep [] B h w [bx p [xC e.arity,A] 57]) e.tuples.length ?_ ?_
  ·
   exact⟨0,e.tuples,⟨Nat.zero_le _,rfl⟩,rfl,d,F.su,H⟩
  intro g1 a w ⟨i,n,f,Z,d,F,H⟩
  cases n with
  | nil=>
   replace d:=vA d;have q1:=vC f.1 f.2;have l1:=zK q1;refine xV (xA 1 F rfl fun a F=>xG (xF (zS F rfl l1 (qV (qX (qX (kF ?_)))))));refine xH ?_;exact⟨(zL d),F.sub sn,(H.s [] rfl rfl)⟩
  | cons x2 n=>
   subst Z;replace f:=qE f.2;have y1:=vH f.2.1;obtain⟨ah,d,N⟩:=qM d;rw[Y] at d;have l1:=vR f.1;refine xV (xA 1 F rfl fun a F=>xG (xF (zQ F rfl l1 (xS (xH (xF ?_))))));have j1:=k64 (Nat.le_of_lt f.1) R;have m1:=kO f.1 R;refine oQ (xV (xA 1 F rfl fun a F=>oI underlying55 sizeOf32 F rfl rfl rfl G y1 fun a p1 h2 F=>gX isAgg32 F rfl rfl H.sm h2 fun a v3 T F=>xA 2 F rfl fun a F=>xG (xF ?_)));obtain⟨o3,d,a0⟩:=xT d;refine oR (fun a w=>∃ (J:Bool),o3= .nx J∧Sk a 46 [(0,xC j),(3,qC p),(17,A),(18,xC (e.tuples.length:Int)),(19,xC (i:Int)),(44,.bool J)]∧Sep [] B h w [bx p [xC e.arity,A] 57]) ?_ ?_
   ·
    refine oM (xA 2 F rfl fun a F=>oD mM F rfl rfl rfl fun a F=>oB isAgg2 F rfl rfl (H.b 0 rfl) rfl (fun a F=>?_));obtain⟨U,c3,d⟩:=xB d;refine oK F rfl call53 rfl H (fB U c3 _ aA K (H.a T) O) fun a w H F=>xA 2 F rfl fun a F=>?_
    rcases vJ (!U) with x | x
    ·
     replace d:=vY x d;have F:=F.eb 30 rfl x;refine xA 11 F rfl fun a F=>?_;refine xA 3 F rfl fun a F=>xG ?_;exact⟨true,(zL d),F.su,H⟩
    replace d:=vX x d;have F:=F.eb 30 rfl x;refine xA 3 F rfl fun a F=>?_
    rcases vJ (decide (0<(i:Int))) with y | y
    ·
     replace d:=vY y d;have F:=F.eb 33 rfl y;refine oD bJ F rfl rfl rfl fun a F=>oB isAgg55 F rfl rfl (H.b 0 rfl) rfl fun a F=>xA 1 F rfl fun a F=>?_;obtain⟨z4,c4,d⟩:=xB d;refine fL F rfl rfl rfl c4 (fun a F=>?_);obtain⟨z5,c5,d⟩:=xB d;refine oI underlying55 sizeOf32 F rfl rfl rfl G c5 fun a p2 h4 F=>gX isAgg32 F rfl rfl H.sm h4 fun a v4 h5 F=>xA 1 F rfl fun a F=>?_;obtain⟨V,c6,d⟩:=xB d;refine oKI F rfl call131 rfl H (dP V c6 _ aA (H.a h5) (H.a T)) fun a w H ai F=>xA 3 F rfl fun a F=>xG ?_;exact⟨(decide (0≤V)),(zL d),F.su,H⟩
    replace d:=vX y d;have F:=F.eb 33 rfl y;refine xA 11 F rfl fun a F=>?_;refine xG ?_;exact⟨false,(zL d),F.su,H⟩
   rintro a w ⟨J,rfl,F,H⟩
   have d:=xY a0;refine xH (qS F rfl (fun D=>?_) (fun D=>?_))
   ·
    replace d:=vY D d;refine xV (xA 1 F rfl fun a F=>xG (xP (vO (oJ (oJ ?_)))));replace d:=kK d N;refine vO (oJ ?_);replace d:=kI d M;refine oJ (xR F rfl (xX F rfl) ?_);obtain rfl:=oj d;exact⟨rfl,H.bl⟩
   replace d:=vX D d;refine xS (vK (xH (oM (zG F rfl rfl rfl m1 fun a F=>xA 1 F rfl fun a F=>xG ?_))));replace d:=zM d N;exact⟨_,Nat.lt_succ_self _,i+1,n,⟨f.1,f.2.2⟩,rfl,d,F.su,H⟩
 rintro a w ⟨rfl,F,H⟩
 have d:=xY M;refine xH (xV (xA 1 F rfl fun a F=>xG (xP (xR F rfl (xX F rfl) ?_))));obtain rfl:=oj d;exact⟨rfl,H.bl⟩
def cQ (c:Rel) (d:Template):Option Bool:=
 xZ (bT d.size (Rel.mk c.arity c.tuples)) fun e=>
 some ((!e))
theorem mQ {B:Nat→Prop} {i:Rel} {j:Template} (r:Bool) (e:cQ i j=some r) {f:Value} {h:Value} (d:World) (p:∀ c,B c→c<d.heap.size) (t:Bo B d (kJ 2 qG) f i) (x:Bo B d (Pt 2 xJ) h j):Calls Tryz.prog 117 #[f,h] d (kU (.bool r) d):=by
 unfold cQ at e
 refine xW (L:=[(0,f),(1,h)]) func117 rfl rfl rfl (sc rfl (sc rfl sn)) (fun a F=>?_);have H:=Sep.start p;refine xV ?_;obtain⟨G,rfl,y,A⟩:=qG.o t;refine oX F rfl rfl rfl H fun a w I H F=>xA 1 F rfl fun a F=>vE (oF (s':=1) lD F rfl rfl x xJ.f0 fun a J n F=>olI isAgg2 F rfl rfl H.sm n fun a C F=>fJ isAgg57 sizeOf57 F rfl rfl (H.b 0 rfl) rfl rfl (fun a F=>?_));obtain⟨D,E,e⟩:=xB e;refine oK F rfl call118 rfl H (tM D E _ aA C (qG.m y (H.a A))) fun a w H F=>xA 2 F rfl fun a F=>xG (xP (xR F rfl (xX F rfl) ?_));obtain rfl:=oj e;exact⟨rfl,H.bl⟩
def aM (c:List Rel) (d:Rel→Option Bool):Option Int:=
 zW (σ:=Unit) (
  qR (σ:=Unit) (ρ:=Int) (fun (e:Nat) (f:Rel) (s:Unit)=>
    match s with
    | _=>
    xZ (d f) fun h=>
    if h then
     some (.ret ((e:Int)))
    else
     some (.go ())) c 0 ()) fun _=>
 some ((-1))
theorem iQ {B:Nat→Prop} {h:List Rel} {C:Rel→Option Bool} (r:Int) (d:aM h C=some r) {t:Value} {j:FuncId} {p:List Value} (f:World) (R:∀ c,B c→c<f.heap.size) (D:Bo B f (Sl 2 qG) t h) (K:∀ args w,(callFunc j args).run Tryz.prog w= .ok (.enter j args) w) (M:∀ (E:Rel) (r:Bool),C E=some r→∀ W,Below f.heap.size f W→∀ (G:Value),Bo (All W) W (kJ 2 qG) G E→Calls Tryz.prog j ([G]++p:List Value).toArray W (kU (.bool r) W)):Calls Tryz.prog 143 #[t,.func (.func j) #[] p.toArray] f (gF r f):=by
 unfold aM at d
 refine xW (L:=[(0,t),(1,.func (.func j) #[] p.toArray)]) func143 rfl rfl rfl (sc rfl (sc rfl sn)) (fun a F=>?_);have H:=Sep.start R;refine xV (xA 1 F rfl fun a F=>xG (xF (xV (xA 1 F rfl fun a F=>oL underlying24 F rfl rfl D fun a I F=>xA 1 F rfl fun a F=>?_))));refine xG ?_;obtain⟨J,d,y⟩:=xT d;refine oR (fun a w=>J= .nx ()∧Sk a 19 []∧Sep [] B f w []) ?_ ?_
 ·
  refine oQ ?_;obtain⟨N,O,d⟩:=qZ d;refine qY (fun g a w=>∃ (n:Nat) (i:List Rel),(n≤h.length∧h.drop n=i)∧i.length=g∧qR N i n ()=some J∧Sk a 19 [(8,xC (n:Int)),(0,t),(1,.func (.func j) #[] p.toArray),(7,xC (h.length:Int))]∧Sep [] B f w []) h.length ?_ ?_
  ·
   exact⟨0,h,⟨Nat.zero_le _,rfl⟩,rfl,d,F.su,H⟩
  intro g2 a w ⟨n,i,e,P,d,F,H⟩
  cases i with
  | nil=>
   replace d:=vA d;have S:=vC e.1 e.2;have l1:=zK S;refine xV (xA 1 F rfl fun a F=>xG (xF (zS F rfl l1 (qV (qX (qX (kF ?_)))))));refine xH ?_;exact⟨(zL d),F.sub sn,H⟩
  | cons x2 i=>
   subst P;replace e:=qE e.2;have T:=vH e.2.1;obtain⟨a0,d,A⟩:=qM d;rw[O] at d;have l1:=vR e.1;refine xV (xA 1 F rfl fun a F=>xG (xF (zQ F rfl l1 (xS (xH (xF ?_))))));have U:=k64 (Nat.le_of_lt e.1) I;have V:=kO e.1 I;refine oQ (xV (xA 2 F rfl fun a F=>vE (xA 2 F rfl fun a F=>?_)));refine xA 1 F rfl fun a F=>oI underlying24 sizeOf57 F rfl rfl rfl D T fun a p1 Q F=>olA isAgg57 sizeOf57 F rfl rfl H.sm Q (fun a v1 X F=>?_);obtain⟨Y,Z,d⟩:=xB d;refine oKV F rfl rfl K rfl H (M _ Y Z _ H.bl _ (H.a X)) fun a w H F=>xG (qS F rfl (fun x=>?_) (fun x=>?_))
   ·
    replace d:=vY x d;refine xV (xA 2 F rfl fun a F=>xG (xP (vO (oJ (oJ ?_)))));replace d:=kK d A;refine vO (oJ ?_);replace d:=kI d y;refine oJ (xR F rfl (xX F rfl) ?_);obtain rfl:=oj d;exact⟨⟨rfl,H.bl⟩,U⟩
   replace d:=vX x d;refine xS (vK (xH (oM (zG F rfl rfl rfl V fun a F=>xA 1 F rfl fun a F=>xG ?_))));replace d:=zM d A;exact⟨_,Nat.lt_succ_self _,n+1,i,⟨e.1,e.2.2⟩,rfl,d,F.su,H⟩
 rintro a w ⟨rfl,F,H⟩
 have d:=xY y;refine xH (xV (xA 1 F rfl fun a F=>xG (xP (xR F rfl (xX F rfl) ?_))));obtain rfl:=oj d;exact⟨⟨rfl,H.bl⟩,(show xO (-1) by decide)⟩
def kA (c:List Rel) (d:Rel→Option Bool):Option Bool:=
 xZ (aM c d) fun e=>
 some ((decide (0≤e)))
theorem hU {B:Nat→Prop} {p:List Rel} {t:Rel→Option Bool} (r:Bool) (f:kA p t=some r) {n:Value} {e:FuncId} {j:List Value} (d:World) (C:∀ c,B c→c<d.heap.size) (D:Bo B d (Sl 2 qG) n p) (y:∀ args w,(callFunc e args).run Tryz.prog w= .ok (.enter e args) w) (A:∀ (i:Rel) (r:Bool),t i=some r→∀ W,Below d.heap.size d W→∀ (x:Value),Bo (All W) W (kJ 2 qG) x i→Calls Tryz.prog e ([x]++j:List Value).toArray W (kU (.bool r) W)):Calls Tryz.prog 116 #[n,.func (.func e) #[] j.toArray] d (kU (.bool r) d):=by
 unfold kA at f
 refine xW (L:=[(0,n),(1,.func (.func e) #[] j.toArray)]) func116 rfl rfl rfl (sc rfl (sc rfl sn)) (fun a F=>?_);have H:=Sep.start C;refine xV (xA 1 F rfl fun a F=>vE (xA 2 F rfl fun a F=>?_));obtain⟨E,G,f⟩:=xB f;refine oKI F rfl call143 rfl H (iQ E G _ aA (H.a D) y (fun i r h W l1=>A i r h W (H.bl.trans (l1.mono H.fr.size)))) fun a w H I F=>xA 2 F rfl fun a F=>xG (xP (xR F rfl (xX F rfl) ?_));obtain rfl:=oj f;exact⟨rfl,H.bl⟩
def aV (c:Template):Option Bool:=
 zW (σ:=Bool) (
  xZ (gE c.size) fun d=>
  if d then  if (decide ((c.rels.length:Int)≤6)) then  xZ (kA c.rels (fun e=>cQ e (Template.mk c.size c.rels))) fun f=>
    some (.nx (!f)) else  some (.nx false) else  some (.nx false)) fun h=>
 some h
theorem nR {B:Nat→Prop} {j:Template} (r:Bool) (d:aV j=some r) {n:Value} (i:World) (E:∀ c,B c→c<i.heap.size) (G:Bo B i (kJ 2 xJ) n j):Calls Tryz.prog 76 #[n] i (kU (.bool r) i):=by
 unfold aV at d
 refine xW (L:=[(0,n)]) func76 rfl rfl rfl (sc rfl sn) (fun a F=>?_);have H:=Sep.start E;refine xV ?_;obtain⟨K,rfl,x,p⟩:=xJ.o G;refine oX F rfl rfl rfl H fun a w M H F=>xA 1 F rfl fun a F=>xG (xF ?_);obtain⟨I,d,C⟩:=xT d;refine oR (fun a w=>∃ (t:Bool),I= .nx t∧Sk a 19 [(2,.bool t)]∧Sep [] B i w []) ?_ ?_
 ·
  refine oM (oD lD F rfl rfl rfl fun a F=>oB isAgg2 F rfl rfl (H.b 0 rfl) rfl (fun a F=>?_));obtain⟨y,J,d⟩:=xB d;refine oK F rfl call115 rfl H (pX y J _ aA x) fun a w H F=>xA 1 F rfl fun a F=>?_
  rcases vJ y with e | e
  ·
   replace d:=vY e d;have F:=F.eb 6 rfl e;refine oD kW F rfl rfl rfl fun a F=>oB isAgg24 F rfl rfl (H.b 0 rfl) rfl fun a F=>oL underlying24 F rfl rfl p fun a N F=>xA 3 F rfl fun a F=>?_
   rcases vJ (decide ((j.rels.length:Int)≤6)) with f | f
   ·
    replace d:=vY f d;have F:=F.eb 12 rfl f;refine oD kW F rfl rfl rfl fun a F=>oB isAgg24 F rfl rfl (H.b 0 rfl) rfl fun a F=>rF F rfl rfl rfl (fun a F=>?_);obtain⟨A,D,d⟩:=xB d;refine oK F rfl call116 rfl H (hU A D _ aA (H.a p) call117 (fun O r h W l1 P f0=>mQ r h W aA f0 ((xJ.b (H.g 0 rfl).bk x (H.a p)).w l1))) fun a w H F=>xA 3 F rfl fun a F=>xG ?_;exact⟨(!A),(zL d),F.su,(H.s [] rfl rfl)⟩
   replace d:=vX f d;have F:=F.eb 12 rfl f;refine xA 7 F rfl fun a F=>xG ?_;exact⟨false,(zL d),F.su,(H.s [] rfl rfl)⟩
  replace d:=vX e d;have F:=F.eb 6 rfl e;refine xA 11 F rfl fun a F=>?_;refine xA 2 F rfl fun a F=>xG ?_;exact⟨false,(zL d),F.su,(H.s [] rfl rfl)⟩
 rintro a w ⟨t,rfl,F,H⟩
 have d:=xY C;refine xH (xP (xR F rfl (xX F rfl) ?_));obtain rfl:=oj d;exact⟨rfl,H.bl⟩
def jX (c:Int):Option Bool:=
 xZ (kD c 1 10) fun d=>
 some d
theorem yT {B:Nat→Prop} {d:Int} (r:Bool) (e:jX d=some r)  (f:World) (i:∀ c,B c→c<f.heap.size) (h:xO d):Calls Tryz.prog 77 #[xC d] f (kU (.bool r) f):=by
 unfold jX at e
 refine xW (L:=[(0,xC d)]) func77 rfl rfl rfl (sc rfl sn) (fun a F=>?_);have H:=Sep.start i;refine xV (xA 1 F rfl fun a F=>vE (xA 1 F rfl fun a F=>?_));obtain⟨j,n,e⟩:=xB e;refine oK F rfl call47 rfl H (aJ j n _ aA h (show xO (1) by decide) (show xO (10) by decide)) fun a w H F=>xA 1 F rfl fun a F=>xG (xP (xR F rfl (xX F rfl) ?_));obtain rfl:=oj e;exact⟨rfl,H.bl⟩
def cT (c:Con) (d:Template) (e:Instance):Option Bool:=
 zW (σ:=Bool) (
  xZ (ck ((d.rels.length:Int) - 1)) fun f=>
  xZ (kD c.rel 0 f) fun h=>
  if (!h) then  some (.nx true) else  xZ (ix d.rels c.rel) fun i=>
   xZ (zO e.vars c.scope i.arity) fun j=>
   some (.nx (!j))) fun n=>
 some n
theorem mH {B:Nat→Prop} {t:Con} {x:Template} {y:Instance} (r:Bool) (d:cT t x y=some r) {i:Value} {j:Value} {n:Value} (e:World) (I:∀ c,B c→c<e.heap.size) (J:Bo B e (kJ 2 qH) i t) (A:Bo B e (Pt 2 xJ) j x) (K:Bo B e (Pt 2 xK) n y):Calls Tryz.prog 79 #[i,j,n] e (kU (.bool r) e):=by
 unfold cT at d
 refine xW (L:=[(0,i),(1,j),(2,n)]) func79 rfl rfl rfl (sc rfl (sc rfl (sc rfl sn))) (fun a F=>?_);have H:=Sep.start I;refine xV ?_;obtain⟨v3,rfl,M,N⟩:=qH.o J;refine oX F rfl rfl rfl H fun a w b1 H F=>xA 1 F rfl fun a F=>xG (xF ?_);obtain⟨O,d,G⟩:=xT d;refine oR (fun a w=>∃ (p:Bool),O= .nx p∧Sk a 28 [(4,.bool p)]∧Sep [] B e w []) ?_ ?_
 ·
  refine xQ H (by kernel_rfl) (by kernel_rfl) (xM F rfl (fun w l=>xU mP F rfl rfl) fun a F=>qB isAgg2 F rfl rfl (H.qb 0 rfl) rfl fun a F=>qF (s':=1) kW F rfl rfl A xJ.f1 fun a p1 P F=>qlS isAgg24 F rfl rfl H.q P fun a v4 Q F=>qL underlying24 F rfl rfl Q (fun a i2 F=>?_));obtain⟨z1,C,d⟩:=xB d;refine xM F rfl (fun w l=>mX F rfl rfl C) (fun a F=>?_);obtain⟨D,R,d⟩:=xB d;refine fG F rfl call47 rfl (fun w w' h l=>l.through h) (fun w l=>aJ D R w aA M (show xO (0) by decide) (kQ C)) fun a F=>xM F rfl (fun w l=>iC F rfl) fun a F=>xM F rfl (fun w l=>xL F rfl) (fun a F=>?_)
  rcases vJ (!D) with f | f
  ·
   replace d:=vY f d;have F:=F.eb 13 rfl f;refine qD F rfl rfl fun a F=>qD F rfl rfl fun a F=>qD F rfl rfl fun a F=>qD F rfl rfl fun a F=>qD F rfl rfl fun a F=>qD F rfl rfl fun a F=>qD F rfl rfl fun a F=>qD F rfl rfl fun a F=>qD F rfl rfl fun a F=>qD F rfl rfl fun a F=>qD F rfl rfl (fun a F=>?_);refine qD F rfl rfl fun a F=>qD F rfl rfl fun a F=>xM F rfl (fun w l=>aX F rfl rfl) fun a F=>xM F rfl (fun w l=>qU F rfl) fun a F=>kT fun w H=>xH ?_;exact⟨true,(zL d),F.su,(H.s [] rfl rfl)⟩
  replace d:=vX f d;have F:=F.eb 13 rfl f;refine qF (s':=1) fH F rfl rfl K xK.f0 fun a p2 S F=>qlI isAgg2 F rfl rfl H.q S fun a T F=>xM F rfl (fun w l=>xU dD F rfl rfl) fun a F=>qB isAgg32 F rfl rfl (H.qb 0 rfl) rfl fun a F=>qF (s':=1) kW F rfl rfl A xJ.f1 fun a p3 U F=>qlS isAgg24 F rfl rfl H.q U fun a v5 V F=>xM F rfl (fun w l=>xU mP F rfl rfl) fun a F=>qB isAgg2 F rfl rfl (H.qb 0 rfl) rfl (fun a F=>?_);obtain⟨z3,W,d⟩:=xB d;refine qI underlying24 sizeOf57 F rfl rfl rfl V W fun a a1 X F=>qF (s':=1) mM F rfl rfl X qG.f0 fun a p4 Y F=>qlI isAgg2 F rfl rfl H.q Y (fun a Z F=>?_);obtain⟨E,c4,d⟩:=xB d;refine fG F rfl call53 rfl (fun w w' h l=>l.through h) (fun w l=>fB E c4 w aA T ((H.go l).a N) Z) fun a F=>xM F rfl (fun w l=>iC F rfl) fun a F=>xM F rfl (fun w l=>bO F rfl rfl) fun a F=>xM F rfl (fun w l=>qU F rfl) fun a F=>kT fun w H=>xH ?_;exact⟨(!E),(zL d),F.su,(H.s [] rfl rfl)⟩
 rintro a w ⟨p,rfl,F,H⟩
 have d:=xY G;refine xH (xP (xR F rfl (xX F rfl) ?_));obtain rfl:=oj d;exact⟨rfl,H.bl⟩
def zU (c:List Con) (d:Con→Option Bool):Option Int:=
 zW (σ:=Unit) (
  qR (σ:=Unit) (ρ:=Int) (fun (e:Nat) (f:Con) (s:Unit)=>
    match s with
    | _=>
    xZ (d f) fun h=>
    if h then
     some (.ret ((e:Int)))
    else
     some (.go ())) c 0 ()) fun _=>
 some ((-1))
theorem eB {B:Nat→Prop} {h:List Con} {C:Con→Option Bool} (r:Int) (d:zU h C=some r) {t:Value} {j:FuncId} {p:List Value} (f:World) (R:∀ c,B c→c<f.heap.size) (D:Bo B f (Sl 2 qH) t h) (K:∀ args w,(callFunc j args).run Tryz.prog w= .ok (.enter j args) w) (M:∀ (E:Con) (r:Bool),C E=some r→∀ W,Below f.heap.size f W→∀ (G:Value),Bo (All W) W (kJ 2 qH) G E→Calls Tryz.prog j ([G]++p:List Value).toArray W (kU (.bool r) W)):Calls Tryz.prog 96 #[t,.func (.func j) #[] p.toArray] f (gF r f):=by
 unfold zU at d
 refine xW (L:=[(0,t),(1,.func (.func j) #[] p.toArray)]) func96 rfl rfl rfl (sc rfl (sc rfl sn)) (fun a F=>?_);have H:=Sep.start R;refine xV (xA 1 F rfl fun a F=>xG (xF (xV (xA 1 F rfl fun a F=>oL underlying27 F rfl rfl D fun a I F=>xA 1 F rfl fun a F=>?_))));refine xG ?_;obtain⟨J,d,y⟩:=xT d;refine oR (fun a w=>J= .nx ()∧Sk a 19 []∧Sep [] B f w []) ?_ ?_
 ·
  refine oQ ?_;obtain⟨N,O,d⟩:=qZ d;refine qY (fun g a w=>∃ (n:Nat) (i:List Con),(n≤h.length∧h.drop n=i)∧i.length=g∧qR N i n ()=some J∧Sk a 19 [(8,xC (n:Int)),(0,t),(1,.func (.func j) #[] p.toArray),(7,xC (h.length:Int))]∧Sep [] B f w []) h.length ?_ ?_
  ·
   exact⟨0,h,⟨Nat.zero_le _,rfl⟩,rfl,d,F.su,H⟩
  intro g2 a w ⟨n,i,e,P,d,F,H⟩
  cases i with
  | nil=>
   replace d:=vA d;have S:=vC e.1 e.2;have l1:=zK S;refine xV (xA 1 F rfl fun a F=>xG (xF (zS F rfl l1 (qV (qX (qX (kF ?_)))))));refine xH ?_;exact⟨(zL d),F.sub sn,H⟩
  | cons x2 i=>
   subst P;replace e:=qE e.2;have T:=vH e.2.1;obtain⟨a0,d,A⟩:=qM d;rw[O] at d;have l1:=vR e.1;refine xV (xA 1 F rfl fun a F=>xG (xF (zQ F rfl l1 (xS (xH (xF ?_))))));have U:=k64 (Nat.le_of_lt e.1) I;have V:=kO e.1 I;refine oQ (xV (xA 2 F rfl fun a F=>vE (xA 2 F rfl fun a F=>?_)));refine xA 1 F rfl fun a F=>oI underlying27 sizeOf60 F rfl rfl rfl D T fun a p1 Q F=>olA isAgg60 sizeOf60 F rfl rfl H.sm Q (fun a v1 X F=>?_);obtain⟨Y,Z,d⟩:=xB d;refine oKV F rfl rfl K rfl H (M _ Y Z _ H.bl _ (H.a X)) fun a w H F=>xG (qS F rfl (fun x=>?_) (fun x=>?_))
   ·
    replace d:=vY x d;refine xV (xA 2 F rfl fun a F=>xG (xP (vO (oJ (oJ ?_)))));replace d:=kK d A;refine vO (oJ ?_);replace d:=kI d y;refine oJ (xR F rfl (xX F rfl) ?_);obtain rfl:=oj d;exact⟨⟨rfl,H.bl⟩,U⟩
   replace d:=vX x d;refine xS (vK (xH (oM (zG F rfl rfl rfl V fun a F=>xA 1 F rfl fun a F=>xG ?_))));replace d:=zM d A;exact⟨_,Nat.lt_succ_self _,n+1,i,⟨e.1,e.2.2⟩,rfl,d,F.su,H⟩
 rintro a w ⟨rfl,F,H⟩
 have d:=xY y;refine xH (xV (xA 1 F rfl fun a F=>xG (xP (xR F rfl (xX F rfl) ?_))));obtain rfl:=oj d;exact⟨⟨rfl,H.bl⟩,(show xO (-1) by decide)⟩
def zY (c:List Con) (d:Con→Option Bool):Option Bool:=
 xZ (zU c d) fun e=>
 some ((decide (0≤e)))
theorem iA {B:Nat→Prop} {p:List Con} {t:Con→Option Bool} (r:Bool) (f:zY p t=some r) {n:Value} {e:FuncId} {j:List Value} (d:World) (C:∀ c,B c→c<d.heap.size) (D:Bo B d (Sl 2 qH) n p) (y:∀ args w,(callFunc e args).run Tryz.prog w= .ok (.enter e args) w) (A:∀ (i:Con) (r:Bool),t i=some r→∀ W,Below d.heap.size d W→∀ (x:Value),Bo (All W) W (kJ 2 qH) x i→Calls Tryz.prog e ([x]++j:List Value).toArray W (kU (.bool r) W)):Calls Tryz.prog 78 #[n,.func (.func e) #[] j.toArray] d (kU (.bool r) d):=by
 unfold zY at f
 refine xW (L:=[(0,n),(1,.func (.func e) #[] j.toArray)]) func78 rfl rfl rfl (sc rfl (sc rfl sn)) (fun a F=>?_);have H:=Sep.start C;refine xV (xA 1 F rfl fun a F=>vE (xA 2 F rfl fun a F=>?_));obtain⟨E,G,f⟩:=xB f;refine oKI F rfl call96 rfl H (eB E G _ aA (H.a D) y (fun i r h W l1=>A i r h W (H.bl.trans (l1.mono H.fr.size)))) fun a w H I F=>xA 2 F rfl fun a F=>xG (xP (xR F rfl (xX F rfl) ?_));obtain rfl:=oj f;exact⟨rfl,H.bl⟩
def kM (d:Template) (c:Instance):Option Bool:=
 zW (σ:=Bool) (
  xZ (aV (Template.mk d.size d.rels)) fun f=>
  if f then  xZ (jX c.vars) fun h=>
   if h then  if (decide ((c.cons.length:Int)≤24)) then  xZ (zY c.cons (fun i=>cT i (Template.mk d.size d.rels) (Instance.mk c.vars c.cons))) fun j=>
     some (.nx (!j)) else  some (.nx false) else  some (.nx false) else  some (.nx false)) fun e=>
 some e
theorem eV {B:Nat→Prop} {A:Template} {p:Instance} (r:Bool) (d:kM A p=some r) {t:Value} {x:Value} (e:World) (M:∀ c,B c→c<e.heap.size) (N:Bo B e (kJ 2 xJ) t A) (O:Bo B e (kJ 2 xK) x p):Calls Tryz.prog 46 #[t,x] e (kU (.bool r) e):=by
 unfold kM at d
 refine xW (L:=[(0,t),(1,x)]) func46 rfl rfl rfl (sc rfl (sc rfl sn)) (fun a F=>?_);have H:=Sep.start M;refine xV ?_;obtain⟨U,rfl,C,D⟩:=xJ.o N;refine oX F rfl rfl rfl H (fun a w V H F=>?_);obtain⟨T,rfl,E,y⟩:=xK.o O;refine oX F rfl rfl rfl H fun a w X H F=>xA 1 F rfl fun a F=>xG (xF ?_);obtain⟨P,d,K⟩:=xT d;refine oR (fun a w=>∃ (n:Bool),P= .nx n∧Sk a 25 [(4,.bool n)]∧Sep [] B e w []) ?_ ?_
 ·
  refine oM (fJ isAgg26 sizeOf26 F rfl rfl (H.b 1 rfl) rfl rfl (fun a F=>?_));obtain⟨G,Q,d⟩:=xB d;refine oK F rfl call76 rfl H (nR G Q _ aA (xJ.m C (H.a D))) fun a w H F=>xA 1 F rfl fun a F=>?_
  rcases vJ G with f | f
  ·
   replace d:=vY f d;have F:=F.eb 7 rfl f;refine oD fH F rfl rfl rfl fun a F=>oB isAgg2 F rfl rfl (H.b 0 rfl) rfl (fun a F=>?_);obtain⟨I,R,d⟩:=xB d;refine oK F rfl call77 rfl H (yT I R _ aA E) fun a w H F=>xA 2 F rfl fun a F=>?_
   rcases vJ I with i | i
   ·
    replace d:=vY i d;have F:=F.eb 12 rfl i;refine oD aD F rfl rfl rfl fun a F=>oB isAgg27 F rfl rfl (H.b 0 rfl) rfl fun a F=>oL underlying27 F rfl rfl y fun a Y F=>xA 3 F rfl fun a F=>?_
    rcases vJ (decide ((p.cons.length:Int)≤24)) with j | j
    ·
     replace d:=vY j d;have F:=F.eb 18 rfl j;refine oD aD F rfl rfl rfl fun a F=>oB isAgg27 F rfl rfl (H.b 0 rfl) rfl fun a F=>rF F rfl rfl rfl (fun a F=>?_);obtain⟨J,S,d⟩:=xB d;refine oK F rfl call78 rfl H (iA J S _ aA (H.a y) call79 (fun Z r h W l1 u0 f0=>mH r h W aA f0 ((xJ.b (H.g 1 rfl).bk C (H.a D)).w l1) ((xK.b (H.g 0 rfl).bk E (H.a y)).w l1))) fun a w H F=>xA 3 F rfl fun a F=>xG ?_;exact⟨(!J),(zL d),F.su,(H.s [] rfl rfl)⟩
    replace d:=vX j d;have F:=F.eb 18 rfl j;refine xA 7 F rfl fun a F=>xG ?_;exact⟨false,(zL d),F.su,(H.s [] rfl rfl)⟩
   replace d:=vX i d;have F:=F.eb 12 rfl i;refine xA 11 F rfl fun a F=>?_;refine xA 2 F rfl fun a F=>xG ?_;exact⟨false,(zL d),F.su,(H.s [] rfl rfl)⟩
  replace d:=vX f d;have F:=F.eb 7 rfl f;refine xA 11 F rfl fun a F=>?_;refine xA 7 F rfl fun a F=>xG ?_;exact⟨false,(zL d),F.su,(H.s [] rfl rfl)⟩
 rintro a w ⟨n,rfl,F,H⟩
 have d:=xY K;refine xH (xP (xR F rfl (xX F rfl) ?_));obtain rfl:=oj d;exact⟨rfl,H.bl⟩
def aG (c:Template) (d:Instance) (e:Int):Option Int:=
 xZ (kM (Template.mk c.size c.rels) (Instance.mk d.vars d.cons)) fun f=>
 if (!f) then
  some 1
 else
  xZ (kD e 0 5000) fun h=>
  if (!h) then
   some 2
  else
   some 0
theorem jM {B:Nat→Prop} {p:Template} {t:Instance} {f:Int} (r:Int) (d:aG p t f=some r) {j:Value} {n:Value} (e:World) (y:∀ c,B c→c<e.heap.size) (A:Bo B e (kJ 2 xJ) j p) (C:Bo B e (kJ 2 xK) n t) (x:xO f):Calls Tryz.prog 21 #[j,n,xC f] e (gF r e):=by
 unfold aG at d
 refine xW (L:=[(0,j),(1,n),(2,xC f)]) func21 rfl rfl rfl (sc rfl (sc rfl (sc rfl sn))) (fun a F=>?_);have H:=Sep.start y;refine xV ?_;obtain⟨P,rfl,D,E⟩:=xJ.o A;refine oX F rfl rfl rfl H (fun a w Q H F=>?_);obtain⟨O,rfl,G,I⟩:=xK.o C;refine oX F rfl rfl rfl H fun a w R H F=>xA 1 F rfl fun a F=>xG (xF (oQ (xV (fJ isAgg26 sizeOf26 F rfl rfl (H.b 1 rfl) rfl rfl fun a F=>fJ isAgg29 sizeOf29 F rfl rfl (H.b 0 rfl) rfl rfl (fun a F=>?_)))));obtain⟨J,K,d⟩:=xB d;refine oK F rfl call46 rfl H (eV J K _ aA (xJ.m D (H.a E)) (xK.m G (H.a I))) fun a w H F=>xA 2 F rfl fun a F=>xG (qS F rfl (fun h=>?_) (fun h=>?_))
 ·
  replace d:=vY h d;refine xV (xA 1 F rfl fun a F=>xG (xP (vO (oJ (xR F rfl (xX F rfl) ?_)))));obtain rfl:=oj d;exact⟨⟨rfl,H.bl⟩,(show xO (1) by decide)⟩
 replace d:=vX h d;refine xV (xA 1 F rfl fun a F=>?_);obtain⟨M,N,d⟩:=xB d;refine oK F rfl call47 rfl H (aJ M N _ aA x (show xO (0) by decide) (show xO (5000) by decide)) fun a w H F=>xA 2 F rfl fun a F=>xG (qS F rfl (fun i=>?_) (fun i=>?_))
 ·
  replace d:=vY i d;refine xV (xA 1 F rfl fun a F=>xG (xP (vO (oJ (xR F rfl (xX F rfl) ?_)))));obtain rfl:=oj d;exact⟨⟨rfl,H.bl⟩,(show xO (2) by decide)⟩
 replace d:=vX i d;refine xS (vK (xH (xV (xA 1 F rfl fun a F=>xG (xP (xR F rfl (xX F rfl) ?_))))));obtain rfl:=oj d;exact⟨⟨rfl,H.bl⟩,(show xO (0) by decide)⟩
def lP (c d:Int):Option (List Int):=
 zW (σ:=(List Int)) (
  dQ (σ:=(List Int)) (ρ:=(List Int)) (fun (e:Nat) (f:(List Int))=>
   xZ (ck (c+(e:Int))) fun h=>
   xZ (ap f ([h])) fun i=>
   some (.go i)) d.toNat 0 []) fun j=>
 some j
theorem xDd {B:Nat→Prop} {f e:Int} (r:(List Int)) (d:lP f e=some r)  (h:World) (N:∀ c,B c→c<h.heap.size) (V:xO f) (A:xO e):Calls Tryz.prog 49 #[xC f,xC e] h (Gv (fun v w'=>∃ (C:Value),v=C∧Sep [] B h w' [rl 1 xI 2 C r])):=by
 unfold lP at d
 refine xW (L:=[(0,xC f),(1,xC e)]) func49 rfl rfl rfl (sc rfl (sc rfl sn)) (fun a F=>?_);have H:=Sep.start N;refine xV (xA 1 F rfl fun a F=>vE (oR0 (R:=xI) underlying32 sizeOf2 F rfl H fun a w O H F=>xA 1 F rfl fun a F=>xG ?_));refine xF (xV (xA 2 F rfl fun a F=>xG ?_));obtain⟨D,d,I⟩:=xT d;refine oR (fun a w=>∃ (x:List Int) (p:Value),D= .nx x∧Sk a 20 [(5,p)]∧Sep [] B h w [rl 1 xI 2 p x]) ?_ ?_
 ·
  refine oQ ?_;obtain⟨J,K,d⟩:=fT d;refine qY (fun g a w=>∃ (i:Nat) (t:List Int) (j:Value),i+g=e.toNat∧dQ J g i t=some D∧Sk a 20 [(9,xC (i:Int)),(0,xC f),(5,j),(8,xC e)]∧Sep [] B h w [rl 1 xI 2 j t]) e.toNat ?_ ?_
  ·
   exact⟨0,[],O,(Nat.zero_add _),d,F.su,H⟩
  intro E a w ⟨i,t,j,n,d,F,H⟩
  cases E with
  | zero=>
   replace d:=eD d;have l1:=iH n;refine xV (xA 1 F rfl fun a F=>xG (xF (zS F rfl l1 (qV (qX (qX (kF ?_)))))));refine xH ?_;exact⟨t,j,(zL d),F.su,H⟩
  | succ E=>
   obtain⟨W,d,M⟩:=eE d;rw[K] at d;have l1:=fS n;refine xV (xA 1 F rfl fun a F=>xG (xF (zQ F rfl l1 (xS (xH (xF ?_))))));have X:=yN n A;have P:=lH n A;refine oQ (xV (xA 2 F rfl fun a F=>xG (oM (xA 3 F rfl fun a F=>?_))));obtain⟨Q,G,d⟩:=xB d;refine cR F rfl rfl rfl G fun a F=>dF (R:=xI) (y:=Q) underlying32 sizeOf2 zeroValue2 rfl rfl F rfl rfl H (Eo.int (kQ G)) (fun a w Y H F=>?_);obtain⟨S,T,d⟩:=xB d;refine oPL (sz:=1) (R:=xI) (z:=(xC 0)) (bytes:=8) underlying32 (by kernel_rfl) rfl rfl F rfl rfl rfl (H.s [1,0] rfl rfl) T fun a w U H F=>xA 1 F rfl fun a F=>zE (vK (xH (oM (zG F rfl rfl rfl P fun a F=>xA 1 F rfl fun a F=>xG ?_))));replace d:=zM d M;exact⟨_,Nat.lt_succ_self _,i+1,S,U,(by omega),d,F.su,H⟩
 rintro a w ⟨x,p,rfl,F,H⟩
 have d:=xY I;refine xH (xV (xA 2 F rfl fun a F=>xG (xP (xR F rfl (xX F rfl) ?_))));obtain rfl:=oj d;exact⟨_,rfl,p,rfl,H⟩
def kS (c:Template) (d:Instance):Option (List (List Int)):=
 zW (σ:=(List (List Int))) (
  dQ (σ:=(List (List Int))) (ρ:=(List (List Int))) (fun(j:Nat) (e:(List (List Int)))=>
   xZ (lP 0 c.size) fun f=>
   xZ (ap e ([f])) fun h=>
   some (.go h)) d.vars.toNat 0 []) fun i=>
 some i
theorem dW {B:Nat→Prop} {t:Template} {f:Instance} (r:(List (List Int))) (d:kS t f=some r) {x:Value} {A:Value} (e:World) (Q:∀ c,B c→c<e.heap.size) (T:Bo B e (kJ 2 xJ) x t) (U:Bo B e (kJ 2 xK) A f):Calls Tryz.prog 23 #[x,A] e (Gv (fun v w'=>∃ (D:Value),v=D∧Sep [] B e w' [rl 1 (qK 1 xI) 32 D r])):=by
 unfold kS at d
 refine xW (L:=[(0,x),(1,A)]) func23 rfl rfl rfl (sc rfl (sc rfl sn)) (fun a F=>?_);have H:=Sep.start Q;refine xV ?_;obtain⟨V,rfl,W,h1⟩:=xJ.o T;refine oX F rfl rfl rfl H (fun a w E H F=>?_);obtain⟨a4,rfl,G,h2⟩:=xK.o U;refine oX F rfl rfl rfl H fun a w b2 H F=>xA 1 F rfl fun a F=>vE (oR0 (R:=(qK 1 xI)) underlying55 sizeOf32 F rfl H fun a w X H F=>xA 1 F rfl fun a F=>xG (xF ?_));refine xV (oD fH F rfl rfl rfl fun a F=>oB isAgg2 F rfl rfl (H.b 1 rfl) rfl fun a F=>xA 1 F rfl fun a F=>xG ?_);obtain⟨I,d,M⟩:=xT d;refine oR (fun a w=>∃ (C:List (List Int)) (j:Value),I= .nx C∧Sk a 19 [(5,j)]∧Sep [] B e w [rl 1 (qK 1 xI) 32 j C]) ?_ ?_
 ·
  refine oQ ?_;obtain⟨N,O,d⟩:=fT d;refine qY (fun g a w=>∃ (h:Nat) (n:List (List Int)) (p:Value),h+g=f.vars.toNat∧dQ N g h n=some I∧Sk a 19 [(9,xC (h:Int)),(2,qC E),(5,p),(8,xC f.vars)]∧Sep [] B e w [rl 1 (qK 1 xI) 32 p n,bx E [xC t.size,V] 26]) f.vars.toNat ?_ ?_
  ·
   exact⟨0,[],X,(Nat.zero_add _),d,F.su,(H.s [0,2] rfl rfl)⟩
  intro J a w ⟨h,n,p,i,d,F,H⟩
  cases J with
  | zero=>
   replace d:=eD d;have l1:=iH i;refine xV (xA 1 F rfl fun a F=>xG (xF (zS F rfl l1 (qV (qX (qX (kF ?_)))))));refine xH ?_;exact⟨n,p,(zL d),F.su,(H.s [0] rfl rfl)⟩
  | succ J=>
   obtain⟨a5,d,P⟩:=eE d;rw[O] at d;have l1:=fS i;refine xV (xA 1 F rfl fun a F=>xG (xF (zQ F rfl l1 (xS (xH (xF ?_))))));have j1:=yN i G;have Y:=lH i G;refine oQ (oM (xA 1 F rfl fun a F=>oD lD F rfl rfl rfl fun a F=>oB isAgg2 F rfl rfl (H.b 1 rfl) rfl (fun a F=>?_)));obtain⟨K,Z,d⟩:=xB d;refine oG F rfl call49 rfl (xDd K Z _ aA (show xO (0) by decide) W) (fun a vv w ⟨v6,a6,S⟩ F=>?_);subst vv;have H:=H.r1 S n0;have H:=H.os;refine dY (R:=(qK 1 xI)) (y:=K) underlying55 sizeOf32 zeroValue32 rfl rfl F rfl rfl H El.sl (fun a w v7 H F=>?_);obtain⟨z2,c2,d⟩:=xB d;refine oPL (sz:=1) (R:=(qK 1 xI)) (z:=(qQ)) (bytes:=24) underlying55 (by kernel_rfl) rfl rfl F rfl rfl rfl (H.s [1,0,2] rfl rfl) c2 fun a w v8 H F=>xA 1 F rfl fun a F=>zE (vK (xH (oM (zG F rfl rfl rfl Y fun a F=>xA 1 F rfl fun a F=>xG ?_))));replace d:=zM d P;exact⟨_,Nat.lt_succ_self _,h+1,z2,v8,(by omega),d,F.su,H⟩
 rintro a w ⟨C,j,rfl,F,H⟩
 have d:=xY M;refine xH (xV (xA 2 F rfl fun a F=>xG (xP (xR F rfl (xX F rfl) ?_))));obtain rfl:=oj d;exact⟨_,rfl,j,rfl,H⟩
def vW (c:List (List Int)) (d:(List Int)→Option Bool):Option Int:=
 zW (σ:=Unit) (
  qR (σ:=Unit) (ρ:=Int) (fun (e:Nat) (f:(List Int)) (s:Unit)=>
    match s with
    | _=>
    xZ (d f) fun h=>
    if h then
     some (.ret ((e:Int)))
    else
     some (.go ())) c 0 ()) fun _=>
 some ((-1))
theorem bL {B:Nat→Prop} {h:List (List Int)} {C:(List Int)→Option Bool} (r:Int) (d:vW h C=some r) {t:Value} {j:FuncId} {p:List Value} (f:World) (R:∀ c,B c→c<f.heap.size) (D:Bo B f (Sl 1 (qK 1 xI)) t h) (K:∀ args w,(callFunc j args).run Tryz.prog w= .ok (.enter j args) w) (M:∀ (E:List Int) (r:Bool),C E=some r→∀ W,Below f.heap.size f W→∀ (G:Value),Bo (All W) W (Sl 1 xI) G E→Calls Tryz.prog j ([G]++p:List Value).toArray W (kU (.bool r) W)):Calls Tryz.prog 81 #[t,.func (.func j) #[] p.toArray] f (gF r f):=by
 unfold vW at d
 refine xW (L:=[(0,t),(1,.func (.func j) #[] p.toArray)]) func81 rfl rfl rfl (sc rfl (sc rfl sn)) (fun a F=>?_);have H:=Sep.start R;refine xV (xA 1 F rfl fun a F=>xG (xF (xV (xA 1 F rfl fun a F=>oL underlying55 F rfl rfl D fun a I F=>xA 1 F rfl fun a F=>?_))));refine xG ?_;obtain⟨J,d,y⟩:=xT d;refine oR (fun a w=>J= .nx ()∧Sk a 19 []∧Sep [] B f w []) ?_ ?_
 ·
  refine oQ ?_;obtain⟨N,O,d⟩:=qZ d;refine qY (fun g a w=>∃ (n:Nat) (i:List (List Int)),(n≤h.length∧h.drop n=i)∧i.length=g∧qR N i n ()=some J∧Sk a 19 [(8,xC (n:Int)),(0,t),(1,.func (.func j) #[] p.toArray),(7,xC (h.length:Int))]∧Sep [] B f w []) h.length ?_ ?_
  ·
   exact⟨0,h,⟨Nat.zero_le _,rfl⟩,rfl,d,F.su,H⟩
  intro g2 a w ⟨n,i,e,P,d,F,H⟩
  cases i with
  | nil=>
   replace d:=vA d;have S:=vC e.1 e.2;have l1:=zK S;refine xV (xA 1 F rfl fun a F=>xG (xF (zS F rfl l1 (qV (qX (qX (kF ?_)))))));refine xH ?_;exact⟨(zL d),F.sub sn,H⟩
  | cons x2 i=>
   subst P;replace e:=qE e.2;have T:=vH e.2.1;obtain⟨a0,d,A⟩:=qM d;rw[O] at d;have l1:=vR e.1;refine xV (xA 1 F rfl fun a F=>xG (xF (zQ F rfl l1 (xS (xH (xF ?_))))));have U:=k64 (Nat.le_of_lt e.1) I;have V:=kO e.1 I;refine oQ (xV (xA 2 F rfl fun a F=>vE (xA 2 F rfl fun a F=>?_)));refine xA 1 F rfl fun a F=>oI underlying55 sizeOf32 F rfl rfl rfl D T fun a p1 Q F=>gX isAgg32 F rfl rfl H.sm Q (fun a v1 X F=>?_);obtain⟨Y,Z,d⟩:=xB d;refine oKV F rfl rfl K rfl H (M _ Y Z _ H.bl _ (H.a X)) fun a w H F=>xG (qS F rfl (fun x=>?_) (fun x=>?_))
   ·
    replace d:=vY x d;refine xV (xA 2 F rfl fun a F=>xG (xP (vO (oJ (oJ ?_)))));replace d:=kK d A;refine vO (oJ ?_);replace d:=kI d y;refine oJ (xR F rfl (xX F rfl) ?_);obtain rfl:=oj d;exact⟨⟨rfl,H.bl⟩,U⟩
   replace d:=vX x d;refine xS (vK (xH (oM (zG F rfl rfl rfl V fun a F=>xA 1 F rfl fun a F=>xG ?_))));replace d:=zM d A;exact⟨_,Nat.lt_succ_self _,n+1,i,⟨e.1,e.2.2⟩,rfl,d,F.su,H⟩
 rintro a w ⟨rfl,F,H⟩
 have d:=xY y;refine xH (xV (xA 1 F rfl fun a F=>xG (xP (xR F rfl (xX F rfl) ?_))));obtain rfl:=oj d;exact⟨⟨rfl,H.bl⟩,(show xO (-1) by decide)⟩
def vQ (c:List (List Int)) (d:(List Int)→Option Bool):Option Bool:=
 xZ (vW c d) fun e=>
 some ((decide (0≤e)))
theorem aW {B:Nat→Prop} {p:List (List Int)} {t:(List Int)→Option Bool} (r:Bool) (f:vQ p t=some r) {n:Value} {e:FuncId} {j:List Value} (d:World) (C:∀ c,B c→c<d.heap.size) (D:Bo B d (Sl 1 (qK 1 xI)) n p) (y:∀ args w,(callFunc e args).run Tryz.prog w= .ok (.enter e args) w) (A:∀ (i:List Int) (r:Bool),t i=some r→∀ W,Below d.heap.size d W→∀ (x:Value),Bo (All W) W (Sl 1 xI) x i→Calls Tryz.prog e ([x]++j:List Value).toArray W (kU (.bool r) W)):Calls Tryz.prog 120 #[n,.func (.func e) #[] j.toArray] d (kU (.bool r) d):=by
 unfold vQ at f
 refine xW (L:=[(0,n),(1,.func (.func e) #[] j.toArray)]) func120 rfl rfl rfl (sc rfl (sc rfl sn)) (fun a F=>?_);have H:=Sep.start C;refine xV (xA 1 F rfl fun a F=>vE (xA 2 F rfl fun a F=>?_));obtain⟨E,G,f⟩:=xB f;refine oKI F rfl call81 rfl H (bL E G _ aA (H.a D) y (fun i r h W l1=>A i r h W (H.bl.trans (l1.mono H.fr.size)))) fun a w H I F=>xA 2 F rfl fun a F=>xG (xP (xR F rfl (xX F rfl) ?_));obtain rfl:=oj f;exact⟨rfl,H.bl⟩
def dV (c:List Int):Option Bool:=
 some (((c.length:Int)==0))
theorem nM {B:Nat→Prop} {f:List Int} (r:Bool) (h:dV f=some r) {e:Value} (d:World) (i:∀ c,B c→c<d.heap.size) (j:Bo B d (Sl 1 xI) e f):Calls Tryz.prog 82 #[e] d (kU (.bool r) d):=by
 unfold dV at h
 refine xW (L:=[(0,e)]) func82 rfl rfl rfl (sc rfl sn) (fun a F=>?_);have H:=Sep.start i;refine xV (xA 1 F rfl fun a F=>vE (xA 1 F rfl fun a F=>oL underlying32 F rfl rfl j fun a n F=>xA 2 F rfl fun a F=>?_));refine xG (xP (xR F rfl (xX F rfl) ?_));obtain rfl:=oj h;exact⟨rfl,H.bl⟩
def zF (c:(List (List Int))):Option Bool:=
 xZ (vQ c (fun d=>dV d)) fun e=>
 some e
theorem gN {B:Nat→Prop} {i:(List (List Int))} (r:Bool) (d:zF i=some r) {f:Value} (e:World) (j:∀ c,B c→c<e.heap.size) (n:Bo B e (Pt 1 (qK 1 (qK 1 xI))) f i):Calls Tryz.prog 119 #[f] e (kU (.bool r) e):=by
 unfold zF at d
 refine xW (L:=[(0,f)]) func119 rfl rfl rfl (sc rfl sn) (fun a F=>?_);have H:=Sep.start j;refine xV (xA 1 F rfl fun a F=>vE (gX isAgg55 F rfl rfl H.sm n (fun a y p F=>?_)));obtain⟨t,x,d⟩:=xB d;refine oK F rfl call120 rfl H (aW t x _ aA (H.a p) call82 (fun A r h W l1 C f0=>nM r h W aA f0)) fun a w H F=>xA 1 F rfl fun a F=>xG (xP (xR F rfl (xX F rfl) ?_));obtain rfl:=oj d;exact⟨rfl,H.bl⟩
def zJ (c:List Int):Option (List Int):=
 xZ (ap ([]) c) fun d=>
 some d
theorem bI {B:Nat→Prop} {j:List Int} (r:(List Int)) (d:zJ j=some r) {f:Value} (e:World) (t:∀ c,B c→c<e.heap.size) (n:Bo B e (Sl 1 xI) f j):Calls Tryz.prog 122 #[f] e (Gv (fun v w'=>∃ (h:Value),v=h∧Sep [] B e w' [rl 1 xI 2 h r])):=by
 unfold zJ at d
 refine xW (L:=[(0,f)]) func122 rfl rfl rfl (sc rfl sn) (fun a F=>?_);have H:=Sep.start t;refine xV (xA 1 F rfl fun a F=>xG (xF (xV (xA 1 F rfl fun a F=>oEn underlying32 F rfl rfl rfl (H.a n) fun a A p F=>zE ?_))));refine xH (qS F rfl (fun i=>?_) (fun i=>?_))
 ·
  replace d:some ([])=some r:=by rw[p i] at d;exact d
  refine xV (xA 1 F rfl fun a F=>xG (xP (oJ (xR F rfl (xX F rfl) ?_))));obtain rfl:=oj d;exact⟨_,rfl,qQ,rfl,(H.nl 1 xI 2)⟩
 refine xS (xH (xV (oR0 (R:=xI) underlying32 sizeOf2 F rfl H fun a w C H F=>xA 1 F rfl fun a F=>?_)));obtain⟨D,x,d⟩:=xB d;refine oPf (sz:=1) (R:=xI) (z:=(xC 0)) (bytes:=8) underlying32 (by kernel_rfl) rfl rfl F rfl rfl rfl H.lw (H.lw.a n) x (fun a w y H F=>?_);have H:=H.tl;refine xA 1 F rfl fun a F=>xG (xP (xR F rfl (xX F rfl) ?_));obtain rfl:=oj d;exact⟨_,rfl,y,rfl,H⟩
def eA (c:Con) (d:List Int):Option Bool:=
 zW (σ:=Unit) (
  qR (σ:=Unit) (ρ:=Bool) (fun (e:Nat) (h:Int) (s:Unit)=>
    match s with
    | _=>
    zW (σ:=Unit) (
     dQ (σ:=Unit) (ρ:=(Ctl (Unit) Bool)) (fun (f:Nat) (s:Unit)=>
       match s with
       | _=>
       zW (σ:=Bool) (
        xZ (ix c.scope (f:Int)) fun i=>
        if (i==h) then  xZ (ix d (f:Int)) fun j=>
         xZ (ix d (e:Int)) fun n=>
         some (.nx (j != n)) else  some (.nx false)) fun p=>
       if p then
        some (.ret (.ret false))
       else
        some (.go ())) (e:Int).toNat 0 ()) fun _=>
    some (.go ())) c.scope 0 ()) fun _=>
 some true
theorem rR {B:Nat→Prop} {f:Con} {O:List Int} (r:Bool) (d:eA f O=some r) {D:Value} {p:Value} (i:World) (hN:∀ c,B c→c<i.heap.size) (A0:Bo B i (kJ 2 qH) D f) (P:Bo B i (Sl 1 xI) p O):Calls Tryz.prog 151 #[D,p] i (kU (.bool r) i):=by
 unfold eA at d
 refine xW (L:=[(0,D),(1,p)]) func151 rfl rfl rfl (sc rfl (sc rfl sn)) (fun a F=>?_);have H:=Sep.start hN;refine xV ?_;obtain⟨j,rfl,i1,E⟩:=qH.o A0;refine oX F rfl rfl rfl H fun a w n H F=>xA 1 F rfl fun a F=>xG (xF (xV (oD dD F rfl rfl rfl fun a F=>oB isAgg32 F rfl rfl (H.b 0 rfl) rfl fun a F=>oL underlying32 F rfl rfl E fun a Q F=>xA 1 F rfl fun a F=>?_)));refine xG ?_;obtain⟨R,d,J⟩:=xT d;refine oR (fun a w=>R= .nx ()∧Sk a 40 []∧Sep [] B i w []) ?_ ?_
 ·
  refine oQ ?_;obtain⟨V,W,d⟩:=qZ d;refine qY (fun g a w=>∃ (e:Nat) (t:List Int),(e≤f.scope.length∧f.scope.drop e=t)∧t.length=g∧qR V t e ()=some R∧Sk a 40 [(11,xC (e:Int)),(1,p),(2,qC n),(9,j),(10,xC (f.scope.length:Int))]∧Sep [] B i w [bx n [xC f.rel,j] 60]) f.scope.length ?_ ?_
  ·
   exact⟨0,f.scope,⟨Nat.zero_le _,rfl⟩,rfl,d,F.su,H⟩
  intro g1 a w ⟨e,t,h,X,d,F,H⟩
  cases t with
  | nil=>
   replace d:=vA d;have q1:=vC h.1 h.2;have l1:=zK q1;refine xV (xA 1 F rfl fun a F=>xG (xF (zS F rfl l1 (qV (qX (qX (kF ?_)))))));refine xH ?_;exact⟨(zL d),F.sub sn,(H.s [] rfl rfl)⟩
  | cons G t=>
   subst X;replace h:=qE h.2;have y1:=vH h.2.1;obtain⟨ai,d,K⟩:=qM d;rw[W] at d;have l1:=vR h.1;refine xV (xA 1 F rfl fun a F=>xG (xF (zQ F rfl l1 (xS (xH (xF ?_))))));have S:=k64 (Nat.le_of_lt h.1) Q;have m1:=kO h.1 Q;refine oQ (xV (xA 1 F rfl fun a F=>oI underlying32 sizeOf2 F rfl rfl rfl E y1 fun a p1 h2 F=>olI isAgg2 F rfl rfl H.sm h2 fun a i3 F=>xA 2 F rfl fun a F=>xG (xF ?_)));refine oM (xA 2 F rfl fun a F=>xG ?_);obtain⟨T,d,M⟩:=xT d;refine oR (fun a w=>T= .nx ()∧Sk a 40 [(1,p),(2,qC n),(9,j),(10,xC (f.scope.length:Int)),(11,xC (e:Int))]∧Sep [] B i w [bx n [xC f.rel,j] 60]) ?_ ?_
   ·
    refine oQ ?_;obtain⟨Y,Z,d⟩:=fT d;refine qY (fun g a w=>∃ (x:Nat),x+g=(e:Int).toNat∧dQ Y g x ()=some T∧Sk a 40 [(17,xC (x:Int)),(1,p),(2,qC n),(5,xC (e:Int)),(6,xC G),(9,j),(10,xC (f.scope.length:Int)),(11,xC (e:Int)),(16,xC (e:Int))]∧Sep [] B i w [bx n [xC f.rel,j] 60]) (e:Int).toNat ?_ ?_
    ·
     exact⟨0,(Nat.zero_add _),d,F.su,H⟩
    intro U a w ⟨x,A,d,F,H⟩
    cases U with
    | zero=>
     replace d:=eD d;have l2:=iH A;refine xV (xA 1 F rfl fun a F=>xG (xF (zS F rfl l2 (qV (qX (qX (kF ?_)))))));refine xH ?_;exact⟨(zL d),F.su,H⟩
    | succ U=>
     obtain⟨aj,d,N⟩:=eE d;rw[Z] at d;have l2:=fS A;refine xV (xA 1 F rfl fun a F=>xG (xF (zQ F rfl l2 (xS (xH (xF ?_))))));have j2:=yN A S;have m2:=lH A S;refine oQ (xV (xA 2 F rfl fun a F=>xG (xF ?_)));obtain⟨o3,d,a0⟩:=xT d;refine oR (fun a w=>∃ (I:Bool),o3= .nx I∧Sk a 40 [(1,p),(2,qC n),(5,xC (e:Int)),(6,xC G),(9,j),(10,xC (f.scope.length:Int)),(11,xC (e:Int)),(16,xC (e:Int)),(17,xC (x:Int)),(37,.bool I)]∧Sep [] B i w [bx n [xC f.rel,j] 60]) ?_ ?_
     ·
      refine xQ H (by kernel_rfl) (by kernel_rfl) (xM F rfl (fun w l=>xU dD F rfl rfl) fun a F=>qB isAgg32 F rfl rfl (H.qb 0 rfl) rfl fun a F=>xM F rfl (fun w l=>xL F rfl) (fun a F=>?_));obtain⟨z1,c1,d⟩:=xB d;refine qI underlying32 sizeOf2 F rfl rfl rfl E c1 fun a p2 h3 F=>qlI isAgg2 F rfl rfl H.q h3 fun a i4 F=>xM F rfl (fun w l=>xL F rfl) fun a F=>xM F rfl (fun w l=>uS F rfl rfl) fun a F=>xM F rfl (fun w l=>xL F rfl) (fun a F=>?_)
      rcases vJ (z1==G) with y | y
      ·
       replace d:=vY y d;have F:=F.eb 27 rfl y;refine xM F rfl (fun w l=>xL F rfl) fun a F=>xM F rfl (fun w l=>xL F rfl) (fun a F=>?_);obtain⟨z2,c2,d⟩:=xB d;refine qI underlying32 sizeOf2 F rfl rfl rfl P c2 fun a p3 h4 F=>qlI isAgg2 F rfl rfl H.q h4 fun a i5 F=>xM F rfl (fun w l=>xL F rfl) fun a F=>xM F rfl (fun w l=>xL F rfl) (fun a F=>?_);obtain⟨z3,c3,d⟩:=xB d;refine qI underlying32 sizeOf2 F rfl rfl rfl P c3 fun a p4 h5 F=>qlI isAgg2 F rfl rfl H.q h5 fun a i6 F=>xM F rfl (fun w l=>rS F rfl rfl) fun a F=>xM F rfl (fun w l=>aX F rfl rfl) fun a F=>kT fun w H=>xH ?_;exact⟨(z2 != z3),(zL d),F.su,H⟩
      replace d:=vX y d;have F:=F.eb 27 rfl y;refine qD F rfl rfl fun a F=>qD F rfl rfl fun a F=>qD F rfl rfl fun a F=>qD F rfl rfl fun a F=>qD F rfl rfl fun a F=>qD F rfl rfl fun a F=>qD F rfl rfl fun a F=>qD F rfl rfl fun a F=>qD F rfl rfl fun a F=>xM F rfl (fun w l=>bO F rfl rfl) fun a F=>kT (fun w H=>?_);refine xH ?_;exact⟨false,(zL d),F.su,H⟩
     rintro a w ⟨I,rfl,F,H⟩
     have d:=xY a0;refine xH (qS F rfl (fun C=>?_) (fun C=>?_))
     ·
      replace d:=vY C d;refine xV (xA 1 F rfl fun a F=>xG (xP (vO (oJ (oJ ?_)))));replace d:=kK d N;refine vO (oJ ?_);replace d:=kI d M;refine vO (oJ (oJ ?_));replace d:=kK d K;refine vO (oJ ?_);replace d:=kI d J;refine oJ (xR F rfl (xX F rfl) ?_);obtain rfl:=oj d;exact⟨rfl,H.bl⟩
     replace d:=vX C d;refine xS (vK (xH (oM (zG F rfl rfl rfl m2 fun a F=>xA 1 F rfl fun a F=>xG ?_))));replace d:=zM d N;exact⟨_,Nat.lt_succ_self _,x+1,(by omega),d,F.su,H⟩
   rintro a w ⟨rfl,F,H⟩
   have d:=xY M;refine vK (xH (oM (zG F rfl rfl rfl m1 fun a F=>xA 1 F rfl fun a F=>xG ?_)));replace d:=zM d K;exact⟨_,Nat.lt_succ_self _,e+1,t,⟨h.1,h.2.2⟩,rfl,d,F.su,H⟩
 rintro a w ⟨rfl,F,H⟩
 have d:=xY J;refine xH (xV (xA 1 F rfl fun a F=>xG (xP (xR F rfl (xX F rfl) ?_))));obtain rfl:=oj d;exact⟨rfl,H.bl⟩
def aL (c:List Int) (d:Int):Option Int:=
 zW (σ:=Unit) (
  qR (σ:=Unit) (ρ:=Int) (fun (e:Nat) (f:Int) (s:Unit)=>
    match s with
    | _=>
    if (d==f) then
     some (.ret ((e:Int)))
    else
     some (.go ())) c 0 ()) fun _=>
 some ((-1))
theorem iT {B:Nat→Prop} {f:List Int} {n:Int} (r:Int) (d:aL f n=some r) {p:Value} (i:World) (J:∀ c,B c→c<i.heap.size) (C:Bo B i (Sl 1 xI) p f) (Q:xO n):Calls Tryz.prog 132 #[p,xC n] i (gF r i):=by
 unfold aL at d
 refine xW (L:=[(0,p),(1,xC n)]) func132 rfl rfl rfl (sc rfl (sc rfl sn)) (fun a F=>?_);have H:=Sep.start J;refine xV (xA 1 F rfl fun a F=>xG (xF (xV (xA 1 F rfl fun a F=>oL underlying32 F rfl rfl C fun a D F=>xA 1 F rfl fun a F=>?_))));refine xG ?_;obtain⟨x,d,y⟩:=xT d;refine oR (fun a w=>x= .nx ()∧Sk a 19 []∧Sep [] B i w []) ?_ ?_
 ·
  refine oQ ?_;obtain⟨E,G,d⟩:=qZ d;refine qY (fun g a w=>∃ (j:Nat) (h:List Int),(j≤f.length∧f.drop j=h)∧h.length=g∧qR E h j ()=some x∧Sk a 19 [(8,xC (j:Int)),(0,p),(1,xC n),(7,xC (f.length:Int))]∧Sep [] B i w []) f.length ?_ ?_
  ·
   exact⟨0,f,⟨Nat.zero_le _,rfl⟩,rfl,d,F.su,H⟩
  intro S a w ⟨j,h,e,I,d,F,H⟩
  cases h with
  | nil=>
   replace d:=vA d;have K:=vC e.1 e.2;have l1:=zK K;refine xV (xA 1 F rfl fun a F=>xG (xF (zS F rfl l1 (qV (qX (qX (kF ?_)))))));refine xH ?_;exact⟨(zL d),F.sub sn,H⟩
  | cons T h=>
   subst I;replace e:=qE e.2;have M:=vH e.2.1;obtain⟨R,d,A⟩:=qM d;rw[G] at d;have l1:=vR e.1;refine xV (xA 1 F rfl fun a F=>xG (xF (zQ F rfl l1 (xS (xH (xF ?_))))));have N:=k64 (Nat.le_of_lt e.1) D;have O:=kO e.1 D;refine oQ (xV (xA 2 F rfl fun a F=>vE (xA 2 F rfl fun a F=>?_)));refine xA 1 F rfl fun a F=>oI underlying32 sizeOf2 F rfl rfl rfl C M fun a U P F=>olI isAgg2 F rfl rfl H.sm P fun a V F=>xA 1 F rfl fun a F=>xG (qS F rfl (fun t=>?_) (fun t=>?_))
   ·
    replace d:=vY t d;refine xV (xA 2 F rfl fun a F=>xG (xP (vO (oJ (oJ ?_)))));replace d:=kK d A;refine vO (oJ ?_);replace d:=kI d y;refine oJ (xR F rfl (xX F rfl) ?_);obtain rfl:=oj d;exact⟨⟨rfl,H.bl⟩,N⟩
   replace d:=vX t d;refine xS (vK (xH (oM (zG F rfl rfl rfl O fun a F=>xA 1 F rfl fun a F=>xG ?_))));replace d:=zM d A;exact⟨_,Nat.lt_succ_self _,j+1,h,⟨e.1,e.2.2⟩,rfl,d,F.su,H⟩
 rintro a w ⟨rfl,F,H⟩
 have d:=xY y;refine xH (xV (xA 1 F rfl fun a F=>xG (xP (xR F rfl (xX F rfl) ?_))));obtain rfl:=oj d;exact⟨⟨rfl,H.bl⟩,(show xO (-1) by decide)⟩
def vG (c:List Int) (d:Int):Option Bool:=
 xZ (aL c d) fun e=>
 some ((decide (0≤e)))
theorem aT {B:Nat→Prop} {i:List Int} {d:Int} (r:Bool) (e:vG i d=some r) {h:Value} (f:World) (n:∀ c,B c→c<f.heap.size) (p:Bo B f (Sl 1 xI) h i) (j:xO d):Calls Tryz.prog 100 #[h,xC d] f (kU (.bool r) f):=by
 unfold vG at e
 refine xW (L:=[(0,h),(1,xC d)]) func100 rfl rfl rfl (sc rfl (sc rfl sn)) (fun a F=>?_);have H:=Sep.start n;refine xV (xA 1 F rfl fun a F=>vE (xA 2 F rfl fun a F=>?_));obtain⟨t,x,e⟩:=xB e;refine oKI F rfl call132 rfl H (iT t x _ aA (H.a p) j) fun a w H y F=>xA 2 F rfl fun a F=>xG (xP (xR F rfl (xX F rfl) ?_));obtain rfl:=oj e;exact⟨rfl,H.bl⟩
def cY (c:List Int) (e f:Int) (d:Con) (h:(List (List Int))):Option Bool:=
 zW (σ:=Bool) (
  xZ (ix c e) fun i=>
  if (i != f) then  some (.nx true) else  xZ (eA d c) fun j=>
   some (.nx (!j))) fun n=>
 if n then
  some false
 else
  zW (σ:=Unit) (
   qR (σ:=Unit) (ρ:=Bool) (fun (p:Nat) (t:Int) (s:Unit)=>
     match s with
     | _=>
     xZ (ix h t) fun x=>
     xZ (ix c (p:Int)) fun y=>
     xZ (vG x y) fun A=>
     if (!A) then
      some (.ret false)
     else
      some (.go ())) d.scope 0 ()) fun _=>
  some true
theorem pM {B:Nat→Prop} {O:List Int} {P D:Int} {i:Con} {Q:(List (List Int))} (r:Bool) (d:cY O P D i Q=some r) {t:Value} {E:Value} {G:Value} {y:Value} {x:Value} (e:World) (Z:∀ c,B c→c<e.heap.size) (I:Bo B e (Sl 1 xI) t O) (A1:Bo B e (Pt 1 xI) E P) (A2:Bo B e (Pt 1 xI) G D) (R:Bo B e (Pt 2 qH) y i) (A4:Bo B e (Pt 1 (qK 1 (qK 1 xI))) x Q):Calls Tryz.prog 150 #[t,E,G,y,x] e (kU (.bool r) e):=by
 unfold cY at d
 refine xW (L:=[(0,t),(1,E),(2,G),(3,y),(4,x)]) func150 rfl rfl rfl (sc rfl (sc rfl (sc rfl (sc rfl (sc rfl sn))))) (fun a F=>?_);have H:=Sep.start Z;refine xV (xA 1 F rfl fun a F=>xG (xF (xF ?_)));obtain⟨o1,d,V⟩:=xT d;refine oR (fun a w=>∃ (J:Bool),o1= .nx J∧Sk a 40 [(0,t),(3,y),(4,x),(20,.bool J)]∧Sep [] B e w []) ?_ ?_
 ·
  refine xQ H (by kernel_rfl) (by kernel_rfl) (xM F rfl (fun w l=>xL F rfl) fun a F=>qlI isAgg3 F rfl rfl H.q A1 (fun a i1 F=>?_));obtain⟨z1,c1,d⟩:=xB d;refine qI underlying32 sizeOf2 F rfl rfl rfl I c1 fun a p1 h1 F=>qlI isAgg2 F rfl rfl H.q h1 fun a ao F=>qlI isAgg2 F rfl rfl H.q A2 fun a i2 F=>xM F rfl (fun w l=>rS F rfl rfl) fun a F=>xM F rfl (fun w l=>xL F rfl) (fun a F=>?_)
  rcases vJ (z1 != D) with p | p
  ·
   replace d:=vY p d;have F:=F.eb 15 rfl p;refine qD F rfl rfl fun a F=>qD F rfl rfl fun a F=>qD F rfl rfl fun a F=>qD F rfl rfl fun a F=>xM F rfl (fun w l=>aX F rfl rfl) fun a F=>kT fun w H=>xH ?_;exact⟨true,(zL d),F.su,H⟩
  replace d:=vX p d;have F:=F.eb 15 rfl p;refine qlA isAgg60 sizeOf60 F rfl rfl H.q R fun a v5 h2 F=>xM F rfl (fun w l=>xL F rfl) (fun a F=>?_);obtain⟨S,c2,d⟩:=xB d;refine fG F rfl call151 rfl (fun w w' h l=>l.through h) (fun w l=>rR S c2 w aA ((H.go l).a h2) ((H.go l).a I)) fun a F=>xM F rfl (fun w l=>iC F rfl) fun a F=>xM F rfl (fun w l=>bO F rfl rfl) fun a F=>kT fun w H=>xH ?_;exact⟨(!S),(zL d),F.su,H⟩
 rintro a w ⟨J,rfl,F,H⟩
 have d:=xY V;refine xH (qS F rfl (fun A=>?_) (fun A=>?_))
 ·
  replace d:=vY A d;refine xV (xA 1 F rfl fun a F=>xG (xP (oJ (xR F rfl (xX F rfl) ?_))));obtain rfl:=oj d;exact⟨rfl,H.bl⟩
 replace d:=vX A d;refine xS (xH (xF (xV (oF (s':=1) dD F rfl rfl R qH.f1 fun a p2 h3 F=>gX isAgg32 F rfl rfl H.sm h3 fun a v6 T F=>oL underlying32 F rfl rfl T fun a U F=>xA 1 F rfl fun a F=>xG ?_))));obtain⟨K,d,M⟩:=xT d;refine oR (fun a w=>K= .nx ()∧Sk a 40 []∧Sep [] B e w []) ?_ ?_
 ·
  refine oQ ?_;obtain⟨W,X,d⟩:=qZ d;refine qY (fun g a w=>∃ (n:Nat) (j:List Int),(n≤i.scope.length∧i.scope.drop n=j)∧j.length=g∧qR W j n ()=some K∧Sk a 40 [(24,xC (n:Int)),(0,t),(4,x),(22,v6),(23,xC (i.scope.length:Int))]∧Sep [] B e w []) i.scope.length ?_ ?_
  ·
   exact⟨0,i.scope,⟨Nat.zero_le _,rfl⟩,rfl,d,F.su,H⟩
  intro g1 a w ⟨n,j,f,Y,d,F,H⟩
  cases j with
  | nil=>
   replace d:=vA d;have q1:=vC f.1 f.2;have l1:=zK q1;refine xV (xA 1 F rfl fun a F=>xG (xF (zS F rfl l1 (qV (qX (qX (kF ?_)))))));refine xH ?_;exact⟨(zL d),F.sub sn,H⟩
  | cons x1 j=>
   subst Y;replace f:=qE f.2;have y4:=vH f.2.1;obtain⟨aq,d,N⟩:=qM d;rw[X] at d;have l1:=vR f.1;refine xV (xA 1 F rfl fun a F=>xG (xF (zQ F rfl l1 (xS (xH (xF ?_))))));have j1:=k64 (Nat.le_of_lt f.1) U;have m1:=kO f.1 U;refine oQ (xV (xA 1 F rfl fun a F=>oI underlying32 sizeOf2 F rfl rfl rfl T y4 fun a p3 h5 F=>olI isAgg2 F rfl rfl H.sm h5 fun a i4 F=>xA 2 F rfl fun a F=>xG (xF ?_)));refine xQ H (by kernel_rfl) (by kernel_rfl) (qlS isAgg55 F rfl rfl H.q A4 fun a v7 h6 F=>xM F rfl (fun w l=>xL F rfl) (fun a F=>?_));obtain⟨z3,c3,d⟩:=xB d;refine qI underlying55 sizeOf32 F rfl rfl rfl h6 c3 fun a p4 h7 F=>qlS isAgg32 F rfl rfl H.q h7 fun a v8 h8 F=>xM F rfl (fun w l=>xL F rfl) fun a F=>xM F rfl (fun w l=>xL F rfl) (fun a F=>?_);obtain⟨z4,c4,d⟩:=xB d;refine qI underlying32 sizeOf2 F rfl rfl rfl I c4 fun a p5 h9 F=>qlI isAgg2 F rfl rfl H.q h9 (fun a i5 F=>?_);obtain⟨z5,c5,d⟩:=xB d;refine fG F rfl call100 rfl (fun w w' h l=>l.through h) (fun w l=>aT z5 c5 w aA ((H.go l).a h8) i5) fun a F=>xM F rfl (fun w l=>iC F rfl) fun a F=>kT fun w H=>xH (qS F rfl (fun C=>?_) (fun C=>?_))
   ·
    replace d:=vY C d;refine xV (xA 1 F rfl fun a F=>xG (xP (vO (oJ (oJ ?_)))));replace d:=kK d N;refine vO (oJ ?_);replace d:=kI d M;refine oJ (xR F rfl (xX F rfl) ?_);obtain rfl:=oj d;exact⟨rfl,H.bl⟩
   replace d:=vX C d;refine xS (vK (xH (oM (zG F rfl rfl rfl m1 fun a F=>xA 1 F rfl fun a F=>xG ?_))));replace d:=zM d N;exact⟨_,Nat.lt_succ_self _,n+1,j,⟨f.1,f.2.2⟩,rfl,d,F.su,H⟩
 rintro a w ⟨rfl,F,H⟩
 have d:=xY M;refine xH (xV (xA 1 F rfl fun a F=>xG (xP (xR F rfl (xX F rfl) ?_))));obtain rfl:=oj d;exact⟨rfl,H.bl⟩
def kP (d:Template) (c:Con) (e:List (List Int)) (f h:Int):Option Bool:=
 xZ (ix d.rels c.rel) fun i=>
 xZ (vQ i.tuples (fun j=>cY j f h (Con.mk c.rel c.scope) e)) fun n=>
 some n
theorem jU {B:Nat→Prop} {t:Template} {x:Con} {y:List (List Int)} {f i:Int} (r:Bool) (d:kP t x y f i=some r) {j:Value} {n:Value} {p:Value} (e:World) (E:∀ c,B c→c<e.heap.size) (G:Bo B e (kJ 2 xJ) j t) (I:Bo B e (kJ 2 qH) n x) (A:Bo B e (Sl 1 (qK 1 xI)) p y) (C:xO f) (D:xO i):Calls Tryz.prog 133 #[j,n,p,xC f,xC i] e (kU (.bool r) e):=by
 unfold kP at d
 refine xW (L:=[(0,j),(1,n),(2,p),(3,xC f),(4,xC i)]) func133 rfl rfl rfl (sc rfl (sc rfl (sc rfl (sc rfl (sc rfl sn))))) (fun a F=>?_);have H:=Sep.start E;refine xV ?_;obtain⟨U,rfl,V,J⟩:=xJ.o G;refine oX F rfl rfl rfl H (fun a w X H F=>?_);obtain⟨T,rfl,K,M⟩:=qH.o I;refine oX F rfl rfl rfl H fun a w Y H F=>oX F rfl rfl (lY (H.a A).one) H fun a w Z H F=>oX F rfl rfl rfl H fun a w b4 H F=>oX F rfl rfl rfl H fun a w b5 H F=>xA 1 F rfl fun a F=>vE (oD kW F rfl rfl rfl fun a F=>oB isAgg24 F rfl rfl (H.b 4 rfl) rfl (fun a F=>?_));refine oD mP F rfl rfl rfl fun a F=>oB isAgg2 F rfl rfl (H.b 3 rfl) rfl (fun a F=>?_);obtain⟨z1,N,d⟩:=xB d;refine oI underlying24 sizeOf57 F rfl rfl rfl J N fun a p1 O F=>oF (s':=1) bJ F rfl rfl O qG.f1 fun a p2 P F=>gX isAgg55 F rfl rfl H.sm P fun a v4 Q F=>rF F rfl rfl rfl (fun a F=>?_);obtain⟨R,S,d⟩:=xB d;refine oK F rfl call120 rfl H (aW R S _ aA (H.a Q) call150 (fun a0 r h W l1 u0 f0=>pM r h W aA f0 ((c1I (H.g 1 rfl).bk C).w l1) ((c1I (H.g 0 rfl).bk D).w l1) ((qH.b (H.g 3 rfl).bk K (H.a M)).w l1) ((c1S (H.g 2 rfl).bk (H.a A)).w l1))) fun a w H F=>xA 1 F rfl fun a F=>xG (xP (xR F rfl (xX F rfl) ?_));obtain rfl:=oj d;exact⟨rfl,H.bl⟩
def gS (c d:Int):Option Bool:=
 some ((c==d))
theorem sK {B:Nat→Prop} {d h:Int} (r:Bool) (i:gS d h=some r) {f:Value} (e:World) (j:∀ c,B c→c<e.heap.size) (p:xO d) (n:Bo B e (Pt 1 xI) f h):Calls Tryz.prog 124 #[xC d,f] e (kU (.bool r) e):=by
 unfold gS at i
 refine xW (L:=[(0,xC d),(1,f)]) func124 rfl rfl rfl (sc rfl (sc rfl sn)) (fun a F=>?_);have H:=Sep.start j;refine xV (xA 1 F rfl fun a F=>vE (xA 1 F rfl fun a F=>olI isAgg2 F rfl rfl H.sm n fun a t F=>xA 2 F rfl fun a F=>?_));refine xG (xP (xR F rfl (xX F rfl) ?_));obtain rfl:=oj i;exact⟨rfl,H.bl⟩
def zR (N:Nat) (i:List Int) (n:Int→Option Bool):Option (List Int):=
 xZ (vD i n) fun j=>
 if (j==(-1)) then
  some i
 else
  xZ (ck (j+1)) fun x=>
  zW (σ:=Int×Int×(List Int)) (
   fE (σ:=Int×Int×(List Int)) (ρ:=(List Int)) (fun(s:Int×Int×(List Int))=>
     match s with
     | (d,e,c)=>
     if (decide (e<(c.length:Int))) then
      xZ (ix c e) fun p=>
      xZ (n p) fun y=>
      if (!y) then
       xZ (ix c d) fun D=>
       xZ (ck (d+1)) fun A=>
       xZ (ck (e+1)) fun B=>
       some (.go (A,B,(c.set (d).toNat p)))
      else
       xZ (ck (e+1)) fun C=>
       some (.go (d,C,c))
     else
      some (.brk (d,e,c))) N (j,x,i)) fun(f,E,h)=>
  xZ (sl h f (h.length:Int)) fun F=>
  xZ (sl (h.take (f).toNat++List.replicate (h.length - (f).toNat) 0) 0 f) fun t=>
  some t
theorem gJ {B:Nat→Prop} {N:Nat} {J:List Int} {S:Int→Option Bool} (r:(List Int)) (d:zR N J S=some r) {p:Value} {i:FuncId} {y:List Value} {A:List Nat} (e:World) (hN:∀ c,B c→c<e.heap.size) (S0:Sep A B e e [rl 1 xI 2 p J]) (P:∀ args w,(callFunc i args).run Tryz.prog w= .ok (.enter i args) w) (Q:∀ (t:Int) (r:Bool),S t=some r→∀ W,Sm B e W→xO t→Calls Tryz.prog i ([xC t]++y:List Value).toArray W (kU (.bool r) W)):Calls Tryz.prog 123 #[p,.func (.func i) #[] y.toArray] e (Gv (fun v w'=>∃ (R:Value),v=R∧Sep A B e w' [rl 1 xI 2 R r])):=by
 unfold zR at d
 refine xW (L:=[(0,p),(1,.func (.func i) #[] y.toArray)]) func123 rfl rfl rfl (sc rfl (sc rfl sn)) (fun a F=>?_);have H:=S0;refine xV (xA 1 F rfl fun a F=>vE (xA 2 F rfl fun a F=>?_));obtain⟨T,c1,d⟩:=xB d;refine oKI F rfl call128 rfl H (cV T c1 _ aA (H.l 0 rfl) P (fun t r h W l1=>Q t r h W (H.go l1).sm)) fun a w H a5 F=>xA 1 F rfl fun a F=>xG (xF (xV (xA 2 F rfl fun a F=>xG ?_)));refine qS F rfl (fun D=>?_) (fun D=>?_)
 ·
  replace d:=vY D d;refine xV (xA 2 F rfl fun a F=>xG (xP (oJ (xR F rfl (xX F rfl) ?_))));obtain rfl:=oj d;exact⟨_,rfl,p,rfl,H⟩
 replace d:=vX D d;refine xS (xH (xF (xV (xA 1 F rfl fun a F=>?_))));obtain⟨z2,U,d⟩:=xB d;refine cR F rfl rfl rfl U fun a F=>xA 1 F rfl fun a F=>xG ?_;obtain⟨V,d,a6⟩:=xT d;refine oR (fun a w=>∃ (C K:Int) (M:List Int) (O:Value),V= .nx (C,K,M)∧Sk a 42 [(0,O),(5,xC C)]∧Sep A B e w [rl 1 xI 2 O M]∧xO C∧xO K) ?_ ?_
 ·
  refine oQ ?_;obtain⟨a7,a8,d⟩:=dE d;refine qY (fun g a w=>∃ (f x:Int) (j:List Int) (n:Value),fE a7 g (f,x,j)=some V∧Sk a 42 [(0,n),(1,.func (.func i) #[] y.toArray),(5,xC f),(6,xC x)]∧Sep A B e w [rl 1 xI 2 n j]∧xO f∧xO x) N ?_ ?_
  ·
   exact⟨T,z2,J,p,d,F.su,H,a5,(kQ U)⟩
  intro g2 a w ⟨f,x,j,n,d,F,H,X,i2⟩;obtain⟨aq,Y,ar,d,E⟩:=aQ d;rw[a8] at d;refine xF (xV (xA 2 F rfl fun a F=>oL underlying32 F rfl rfl (H.l 0 rfl) fun a i3 F=>xA 1 F rfl fun a F=>xG (qS F rfl (fun G=>?_) (fun G=>?_))))
  ·
   replace d:=vY G d;refine xS (xH (xF (oQ (xV (xA 2 F rfl fun a F=>?_)))));obtain⟨z3,c3,d⟩:=xB d;refine oI underlying32 sizeOf2 F rfl rfl rfl (H.l 0 rfl) c3 fun a p1 h1 F=>olI isAgg2 F rfl rfl (Sm.refl _ _) h1 fun a Z F=>xA 1 F rfl fun a F=>vE (xA 2 F rfl fun a F=>?_);obtain⟨z4,c4,d⟩:=xB d;refine oKV F rfl rfl P rfl H (Q _ z4 c4 _ H.sm Z) fun a w H F=>xA 1 F rfl fun a F=>xG (qS F rfl (fun I=>?_) (fun I=>?_))
   ·
    replace d:=vY I d;refine xV (xA 3 F rfl fun a F=>?_);obtain⟨z5,c5,d⟩:=xB d;refine oRl underlying32 sizeOf2 F rfl rfl rfl H 0 rfl c5 (fun a p2 h2 a9 F=>?_);have H:=H.lw;refine oS sizeOf2 F rfl rfl rfl H a9 (fQ c5) (Eo.int Z) rfl rfl (fun w H=>?_);have H:=H.tl;refine xG (oM (xA 1 F rfl fun a F=>?_));obtain⟨z6,c6,d⟩:=xB d;refine cR F rfl rfl rfl c6 fun a F=>xA 1 F rfl fun a F=>zE (vK (xH (oM (xA 1 F rfl fun a F=>?_))));obtain⟨z7,c7,d⟩:=xB d;refine cR F rfl rfl rfl c7 fun a F=>xA 1 F rfl fun a F=>xG ?_;replace d:=zM d E;exact⟨Y,(by omega),z6,z7,(j.set (f).toNat z3),n,d,F.su,H,(kQ c6),(kQ c7)⟩
   replace d:=vX I d;refine xS (vK (xH (oM (xA 1 F rfl fun a F=>?_))));obtain⟨z8,c8,d⟩:=xB d;refine cR F rfl rfl rfl c8 fun a F=>xA 1 F rfl fun a F=>xG ?_;replace d:=zM d E;exact⟨Y,(by omega),f,z8,j,n,d,F.su,H,X,(kQ c8)⟩
  replace d:=vX G d;refine qV (qX (qX ?_));replace d:=jO d E;refine kF (xH ?_);exact⟨f,x,j,n,(zL d),F.su,H,X,i2⟩
 rintro a w ⟨C,K,M,O,rfl,F,H,i5,i6⟩
 have d:=xY a6;refine xH (xV (xA 2 F rfl fun a F=>?_));obtain⟨z9,c9,d⟩:=xB d;refine oRtl underlying32 sizeOf2 F rfl rfl rfl H 0 rfl c9 fun a p3 a4 F=>oRcl underlying32 zeroValue2 F rfl rfl H a4 fun w H=>vE (xA 2 F rfl fun a F=>?_);obtain⟨au,aa,d⟩:=xB d;refine oT underlying32 sizeOf2 F rfl rfl rfl H.lw aa (fun a v3 H F=>?_);have H:=H.tl;refine xA 1 F rfl fun a F=>xG (xP (xR F rfl (xX F rfl) ?_));obtain rfl:=oj d;exact⟨_,rfl,v3,rfl,H⟩
def kR (N:Nat) (c:List Int) (d:Int):Option (List Int):=
 xZ (zJ c) fun e=>
 xZ (zR N e (fun f=>gS f d)) fun h=>
 some h
theorem gV {B:Nat→Prop} {N:Nat} {p:List Int} {e:Int} (r:(List Int)) (d:kR N p e=some r) {i:Value} (f:World) (G:∀ c,B c→c<f.heap.size) (I:Bo B f (Sl 1 xI) i p) (C:xO e):Calls Tryz.prog 85 #[i,xC e] f (Gv (fun v w'=>∃ (n:Value),v=n∧Sep [] B f w' [rl 1 xI 2 n r])):=by
 unfold kR at d
 refine xW (L:=[(0,i),(1,xC e)]) func85 rfl rfl rfl (sc rfl (sc rfl sn)) (fun a F=>?_);have H:=Sep.start G;refine xV (oX F rfl rfl rfl H fun a w b1 H F=>xA 1 F rfl fun a F=>vE (xA 1 F rfl fun a F=>?_));obtain⟨t,J,d⟩:=xB d;refine oG F rfl call122 rfl (bI t J _ aA (H.a I)) (fun a j w ⟨M,V,S⟩ F=>?_);subst j;have H:=H.r1 S n0;refine rF F rfl rfl rfl (fun a F=>?_);obtain⟨O,rfl⟩:∃ x,x=w:=⟨_,rfl⟩;have X:=H.sm;obtain⟨P,Q,R,e1,H,D,Y⟩:=(H.s [1,0] rfl rfl).fza;have K1:=R.bk;obtain⟨y,T,d⟩:=xB d;obtain⟨X2,U,E⟩:=Sep.lend (K:=[rl 1 xI 2 M t]) (L:=[]) H;refine oG F rfl call123 rfl (gJ y T _ H.hN U call124 (fun a0 r h W l1 f0=>sK r h W aA f0 (Bo.all (Bo.to (c1I (K1.to H.sm) C) l1)))) (fun a j w ⟨A,Z,S⟩ F=>?_);subst j;have H:Sep P Q O w [rl 1 xI 2 A y]:=E S;refine xA 1 F rfl fun a F=>xG (xP ?_);have H:=(D.1 H (Ns.all ⟨n0,trivial⟩));refine xR F rfl (xX F rfl) ?_;obtain rfl:=oj d;exact⟨_,rfl,A,rfl,(H.s [1] rfl rfl)⟩
def fP (N:Nat) (j:Template) (M:Instance) (O:List (List Int)) (P:List (List Int)→Option Bool):Option ((List ArcStep)×(List (List Int))):=
 zW (σ:=(List ArcStep)×Bool×(List (List Int))) (
  fE (σ:=(List ArcStep)×Bool×(List (List Int))) (ρ:=(List ArcStep)×(List (List Int))) (fun(s:(List ArcStep)×Bool×(List (List Int)))=>
    match s with
    | (n,p,t)=>
    if p then
     zW (σ:=(List ArcStep)×Bool×(List (List Int))) (
      qR (σ:=(List ArcStep)×Bool×(List (List Int))) (ρ:=(Ctl ((List ArcStep)×Bool×(List (List Int))) ((List ArcStep)×(List (List Int))))) (fun (Q:Nat) (e:Con) (s:(List ArcStep)×Bool×(List (List Int)))=>
        match s with
        | (R,S,T)=>
        zW (σ:=(List ArcStep)×Bool×(List (List Int))) (
         qR (σ:=(List ArcStep)×Bool×(List (List Int))) (ρ:=(Ctl ((List ArcStep)×Bool×(List (List Int))) (Ctl ((List ArcStep)×Bool×(List (List Int))) ((List ArcStep)×(List (List Int)))))) (fun (U:Nat) (d:Int) (s:(List ArcStep)×Bool×(List (List Int)))=>
           match s with
           | (V,W,x)=>
           xZ (ix x d) fun X=>
           xZ (zJ X) fun Y=>
           zW (σ:=(List ArcStep)×Bool×(List (List Int))) (
            qR (σ:=(List ArcStep)×Bool×(List (List Int))) (ρ:=(Ctl ((List ArcStep)×Bool×(List (List Int))) (Ctl ((List ArcStep)×Bool×(List (List Int))) (Ctl ((List ArcStep)×Bool×(List (List Int))) ((List ArcStep)×(List (List Int))))))) (fun (k3:Nat) (f:Int) (s:(List ArcStep)×Bool×(List (List Int)))=>
              match s with
              | (i,A,c)=>
              xZ (kP (Template.mk j.size j.rels) (Con.mk e.rel e.scope) c (U:Int) f) fun Z=>
              if Z then
               some (.go (i,A,c))
              else
               xZ (ix c d) fun z4=>
               xZ (kR N z4 f) fun h=>
               xZ (ap i ([(ArcStep.mk d f (Q:Int))])) fun y=>
               xZ (P (c.set (d).toNat h)) fun z7=>
               if z7 then
                some (.ret (.ret (.ret (.ret (y,(c.set (d).toNat h))))))
               else
                some (.go (y,true,(c.set (d).toNat h)))) Y 0 (V,W,x)) fun(B,C,D)=>
           some (.go (B,C,D))) e.scope 0 (R,S,T)) fun(E,F,G)=>
        some (.go (E,F,G))) M.cons 0 (n,false,t)) fun(H,I,J)=>
     some (.go (H,I,J))
    else
     some (.brk (n,p,t))) N ([],true,O)) fun(K,a2,L)=>
 some (K,L)
theorem tR {B:Nat→Prop} {N:Nat} {K:Template} {j:Instance} {x2:List (List Int)} {x3:List (List Int)→Option Bool} (r:(List ArcStep)×(List (List Int))) (f:fP N K j x2 x3=some r) {v0:Value} {v1:Value} {h:Value} {A:FuncId} {i:Nat} {J:List Nat} (n:World) (hN:∀ c,B c→c<n.heap.size) (S0:Sep J B n n [rw N0 1 (qK 1 xI) 32 h x2,bx i [h] 55]) (A0:Bo B n (kJ 2 xJ) v0 K) (A1:Bo B n (kJ 2 xK) v1 j) (hg3:∀ args w,(callFunc A args).run Tryz.prog w= .ok (.enter A args) w) (hp3:∀ (d:List (List Int)) (r:Bool),x3 d=some r→∀ W,Bo (All W) W (Pt 1 (qK 1 (qK 1 xI))) (qC i) d→Calls Tryz.prog A #[qC i] W (kU (.bool r) W)):Calls Tryz.prog 121 #[v0,v1,h,.func (.func A) #[] #[qC i]] n (Gv (fun v w'=>∃ (bb:Value),v=bb∧Sep J B n w' [rl 3 oU 152 bb r.1,rw N0 1 (qK 1 xI) 32 h r.2,bx i [h] 55])):=by
 unfold fP at f
 refine xW (L:=[(0,v0),(1,v1),(2,h),(3,.func (.func A) #[] #[qC i])]) func121 rfl rfl rfl (sc rfl (sc rfl (sc rfl (sc rfl sn)))) (fun a F=>?_);have H:=S0;refine xV ?_;obtain⟨Q,rfl,i1,h1⟩:=xJ.o A0;refine oX F rfl rfl rfl H (fun a w p H F=>?_);obtain⟨C,rfl,i2,h2⟩:=xK.o A1;refine oX F rfl rfl rfl H fun a w t H F=>xA 1 F rfl fun a F=>vE (oR0 (R:=oU) underlying149 sizeOf152 F rfl H fun a w v4 H F=>xA 1 F rfl fun a F=>xG (xF ?_));refine xV (xA 1 F rfl fun a F=>xG ?_);obtain⟨o1,f,bc⟩:=xT f;refine oR (fun a w=>∃ (s1:List ArcStep) (v5:Value) (s2:Bool) (s3:List (List Int)),o1= .nx (s1,s2,s3)∧Sk a 74 [(2,h),(3,.func (.func A) #[] #[qC i]),(9,v5)]∧Sep J B n w [rl 3 oU 152 v5 s1,rw N0 1 (qK 1 xI) 32 h s3,bx i [h] 55]) ?_ ?_
 ·
  refine oQ ?_;obtain⟨fl1,c8,f⟩:=dE f;refine qY (fun g a w=>∃ (s4:List ArcStep) (v6:Value) (s5:Bool) (s6:List (List Int)),fE fl1 g (s4,s5,s6)=some o1∧Sk a 74 [(2,h),(3,.func (.func A) #[] #[qC i]),(4,qC p),(5,qC t),(9,v6),(10,.bool s5)]∧Sep J B n w [rl 3 oU 152 v6 s4,bx t [xC j.vars,C] 29,bx p [xC K.size,Q] 26,rw N0 1 (qK 1 xI) 32 h s6,bx i [h] 55]) N ?_ ?_
  ·
   exact⟨[],v4,true,x2,f,F.su,H⟩
  intro g1 a w ⟨s4,v6,s5,s6,f,F,H⟩;obtain⟨dq,t1,dr,f,aw⟩:=aQ f;rw[c8] at f;refine xF (xV (xA 1 F rfl fun a F=>xG (qS F rfl (fun ax=>?_) (fun ax=>?_))))
  ·
   replace f:=vY ax f;refine xS (xH (oQ (xV (xA 1 F rfl fun a F=>vE (oD aD F rfl rfl rfl (fun a F=>?_))))));refine oB isAgg27 F rfl rfl (H.b 1 rfl) rfl fun a F=>oL underlying27 F rfl rfl h2 fun a i3 F=>xA 1 F rfl fun a F=>xG ?_;obtain⟨o2,f,be⟩:=xT f;refine oR (fun a w=>∃ (s7:List ArcStep) (v7:Value) (s8:Bool) (s9:List (List Int)),o2= .nx (s7,s8,s9)∧Sk a 74 [(2,h),(3,.func (.func A) #[] #[qC i]),(4,qC p),(5,qC t),(9,v7),(10,.bool s8)]∧Sep J B n w [rl 3 oU 152 v7 s7,bx t [xC j.vars,C] 29,bx p [xC K.size,Q] 26,rw N0 1 (qK 1 xI) 32 h s9,bx i [h] 55]) ?_ ?_
   ·
    refine oQ ?_;obtain⟨c9,ca,f⟩:=qZ f;refine qY (fun g a w=>∃ (x:Nat) (T:List Con) (a0:List ArcStep) (v8:Value) (a1:Bool) (a2:List (List Int)),(x≤j.cons.length∧j.cons.drop x=T)∧T.length=g∧qR c9 T x (a0,a1,a2)=some o2∧Sk a 74 [(22,xC (x:Int)),(2,h),(3,.func (.func A) #[] #[qC i]),(4,qC p),(5,qC t),(9,v8),(10,.bool a1),(20,C),(21,xC (j.cons.length:Int))]∧Sep J B n w [rl 3 oU 152 v8 a0,bx t [xC j.vars,C] 29,bx p [xC K.size,Q] 26,rw N0 1 (qK 1 xI) 32 h a2,bx i [h] 55]) j.cons.length ?_ ?_
    ·
     exact⟨0,j.cons,s4,v6,false,s6,⟨Nat.zero_le _,rfl⟩,rfl,f,F.su,H⟩
    intro g2 a w ⟨x,T,a0,v8,a1,a2,G,cb,f,F,H⟩
    cases T with
    | nil=>
     replace f:=vA f;have q1:=vC G.1 G.2;have l1:=zK q1;refine xV (xA 1 F rfl fun a F=>xG (xF (zS F rfl l1 (qV (qX (qX (kF ?_)))))));refine xH ?_;exact⟨a0,v8,a1,a2,(zL f),F.su,H⟩
    | cons E T=>
     subst cb;replace G:=qE G.2;have y1:=vH G.2.1;obtain⟨ds,f,bf⟩:=qM f;rw[ca] at f;have l1:=vR G.1;refine xV (xA 1 F rfl fun a F=>xG (xF (zQ F rfl l1 (xS (xH (xF ?_))))));have j1:=k64 (Nat.le_of_lt G.1) i3;have m1:=kO G.1 i3;refine oQ (xV (xA 1 F rfl fun a F=>oI underlying27 sizeOf60 F rfl rfl rfl h2 y1 fun a p1 h3 F=>olA isAgg60 sizeOf60 F rfl rfl H.sm h3 fun a v9 h4 F=>oA zeroValue60 F rfl rfl H fun a w Z H F=>xA 1 F rfl fun a F=>?_));obtain⟨P,rfl,i4,h5⟩:=qH.o h4;refine eX (vs:=[xC E.rel,P]) sizeOf60 F rfl rfl rfl H (oc rfl (oc (H.a h5).one on)) rfl rfl fun w H=>vE (oD dD F rfl rfl rfl fun a F=>oB isAgg32 F rfl rfl (H.b 0 rfl) rfl fun a F=>oL underlying32 F rfl rfl h5 fun a i5 F=>xA 1 F rfl fun a F=>xG ?_);obtain⟨o3,f,bg⟩:=xT f;refine oR (fun a w=>∃ (ae:List ArcStep) (af:Value) (ag:Bool) (ah:List (List Int)),o3= .nx (ae,ag,ah)∧Sk a 74 [(2,h),(3,.func (.func A) #[] #[qC i]),(4,qC p),(5,qC t),(9,af),(10,.bool ag),(20,C),(21,xC (j.cons.length:Int)),(22,xC (x:Int))]∧Sep J B n w [rl 3 oU 152 af ae,bx t [xC j.vars,C] 29,bx p [xC K.size,Q] 26,rw N0 1 (qK 1 xI) 32 h ah,bx i [h] 55]) ?_ ?_
     ·
      refine oQ ?_;obtain⟨cc,cd,f⟩:=qZ f;refine qY (fun g a w=>∃ (M:Nat) (U:List Int) (a3:List ArcStep) (a4:Value) (a5:Bool) (a6:List (List Int)),(M≤E.scope.length∧E.scope.drop M=U)∧U.length=g∧qR cc U M (a3,a5,a6)=some o3∧Sk a 74 [(30,xC (M:Int)),(2,h),(3,.func (.func A) #[] #[qC i]),(4,qC p),(5,qC t),(9,a4),(10,.bool a5),(11,xC (x:Int)),(12,qC Z),(20,C),(21,xC (j.cons.length:Int)),(22,xC (x:Int)),(28,P),(29,xC (E.scope.length:Int))]∧Sep J B n w [bx Z [xC E.rel,P] 60,rl 3 oU 152 a4 a3,bx t [xC j.vars,C] 29,bx p [xC K.size,Q] 26,rw N0 1 (qK 1 xI) 32 h a6,bx i [h] 55]) E.scope.length ?_ ?_
      ·
       exact⟨0,E.scope,a0,v8,a1,a2,⟨Nat.zero_le _,rfl⟩,rfl,f,F.su,H⟩
      intro g4 a w ⟨M,U,a3,a4,a5,a6,I,ce,f,F,H⟩
      cases U with
      | nil=>
       replace f:=vA f;have q2:=vC I.1 I.2;have l2:=zK q2;refine xV (xA 1 F rfl fun a F=>xG (xF (zS F rfl l2 (qV (qX (qX (kF ?_)))))));refine xH ?_;exact⟨a3,a4,a5,a6,(zL f),F.su,(H.s [1,2,3,4,5] rfl rfl)⟩
      | cons x5 U=>
       subst ce;replace I:=qE I.2;have y2:=vH I.2.1;obtain⟨du,f,bh⟩:=qM f;rw[cd] at f;have l2:=vR I.1;refine xV (xA 1 F rfl fun a F=>xG (xF (zQ F rfl l2 (xS (xH (xF ?_))))));have j2:=k64 (Nat.le_of_lt I.1) i5;have m2:=kO I.1 i5;refine oQ (xV (xA 1 F rfl fun a F=>oI underlying32 sizeOf2 F rfl rfl rfl h5 y2 fun a p2 h6 F=>olI isAgg2 F rfl rfl H.sm h6 fun a i6 F=>xA 2 F rfl fun a F=>xG (xF ?_)));refine oM (xA 2 F rfl fun a F=>?_);obtain⟨z1,c1,f⟩:=xB f;refine oI underlying55 sizeOf32 F rfl rfl rfl (H.r 4 rfl) c1 fun a p3 h7 F=>gX isAgg32 F rfl rfl (Sm.refl _ _) h7 (fun a dw h8 F=>?_);obtain⟨V,c2,f⟩:=xB f;refine oG F rfl call122 rfl (bI V c2 _ aA h8) (fun a vv w ⟨bi,dx,S⟩ F=>?_);subst vv;have H:=H.r1 S n0;refine oL underlying32 F rfl rfl (H.l 0 rfl) fun a i7 F=>xA 1 F rfl fun a F=>xG ?_;obtain⟨o4,f,bj⟩:=xT f;refine oR (fun a w=>∃ (ai:List ArcStep) (aj:Value) (ak:Bool) (al:List (List Int)),o4= .nx (ai,ak,al)∧Sk a 74 [(2,h),(3,.func (.func A) #[] #[qC i]),(4,qC p),(5,qC t),(9,aj),(10,.bool ak),(11,xC (x:Int)),(12,qC Z),(20,C),(21,xC (j.cons.length:Int)),(22,xC (x:Int)),(28,P),(29,xC (E.scope.length:Int)),(30,xC (M:Int))]∧Sep J B n w [bx Z [xC E.rel,P] 60,rl 3 oU 152 aj ai,bx t [xC j.vars,C] 29,bx p [xC K.size,Q] 26,rw N0 1 (qK 1 xI) 32 h al,bx i [h] 55]) ?_ ?_
       ·
        refine oQ ?_;obtain⟨cf,cg,f⟩:=qZ f;refine qY (fun g a w=>∃ (X:Nat) (O:List Int) (a7:List ArcStep) (a8:Value) (a9:Bool) (Y:List (List Int)),(X≤V.length∧V.drop X=O)∧O.length=g∧qR cf O X (a7,a9,Y)=some o4∧Sk a 74 [(41,xC (X:Int)),(2,h),(3,.func (.func A) #[] #[qC i]),(4,qC p),(5,qC t),(9,a8),(10,.bool a9),(11,xC (x:Int)),(12,qC Z),(13,xC (M:Int)),(14,xC x5),(20,C),(21,xC (j.cons.length:Int)),(22,xC (x:Int)),(28,P),(29,xC (E.scope.length:Int)),(30,xC (M:Int)),(39,bi),(40,xC (V.length:Int))]∧Sep J B n w [rl 1 xI 2 bi V,bx Z [xC E.rel,P] 60,rl 3 oU 152 a8 a7,bx t [xC j.vars,C] 29,bx p [xC K.size,Q] 26,rw N0 1 (qK 1 xI) 32 h Y,bx i [h] 55]) V.length ?_ ?_
        ·
         exact⟨0,V,a3,a4,a5,a6,⟨Nat.zero_le _,rfl⟩,rfl,f,F.su,H⟩
        intro g5 a w ⟨X,O,a7,a8,a9,Y,D,ch,f,F,H⟩
        cases O with
        | nil=>
         replace f:=vA f;have q3:=vC D.1 D.2;have l3:=zK q3;refine xV (xA 1 F rfl fun a F=>xG (xF (zS F rfl l3 (qV (qX (qX (kF ?_)))))));refine xH ?_;exact⟨a7,a8,a9,Y,(zL f),F.su,(H.s [1,2,3,4,5,6] rfl rfl)⟩
        | cons x6 O=>
         subst ch;replace D:=qE D.2;have y3:=vH D.2.1;obtain⟨dy,f,ay⟩:=qM f;rw[cg] at f;have l3:=vR D.1;refine xV (xA 1 F rfl fun a F=>xG (xF (zQ F rfl l3 (xS (xH (xF ?_))))));have j3:=k64 (Nat.le_of_lt D.1) i7;have m3:=kO D.1 i7;refine oQ (xV (oI underlying32 sizeOf2 F rfl rfl rfl (H.l 0 rfl) y3 fun a p4 h9 F=>olI isAgg2 F rfl rfl (Sm.refl _ _) h9 fun a i8 F=>xA 1 F rfl fun a F=>xG (xF (xV ?_))));refine fJ isAgg26 sizeOf26 F rfl rfl (H.b 4 rfl) rfl rfl fun a F=>fJ isAgg60 sizeOf60 F rfl rfl (H.b 1 rfl) rfl rfl fun a F=>xA 3 F rfl fun a F=>?_;obtain⟨z3,c3,f⟩:=xB f;refine oK F rfl call133 rfl H (jU z3 c3 _ aA (xJ.m i1 (H.a h1)) (qH.m i4 (H.a h5)) (H.r 5 rfl) j2 i8) fun a w H F=>xG (qS F rfl (fun az=>?_) (fun az=>?_))
         ·
          replace f:=vY az f;refine qV (qX (kF (xH (oM (zG F rfl rfl rfl m3 fun a F=>xA 1 F rfl fun a F=>xG ?_)))));replace f:=zM f ay;exact⟨_,Nat.lt_succ_self _,X+1,O,a7,a8,a9,Y,⟨D.1,D.2.2⟩,rfl,f,F.su,H⟩
         replace f:=vX az f;refine xS (xH (xV (xA 4 F rfl fun a F=>?_)));obtain⟨z4,c4,f⟩:=xB f;refine oI underlying55 sizeOf32 F rfl rfl rfl (H.r 5 rfl) c4 fun a p5 ci F=>gX isAgg32 F rfl rfl (Sm.refl _ _) ci fun a dz cj F=>xA 1 F rfl fun a F=>?_;obtain⟨z5,c5,f⟩:=xB f;refine oG F rfl call85 rfl (gV z5 c5 _ aA cj i8) (fun a vv w ⟨e0,e1,S⟩ F=>?_);subst vv;have H:=H.r1 S n0;refine oRi underlying55 sizeOf32 F rfl rfl rfl H 6 rfl c4 fun a p6 e2 cl F=>oSc sizeOf32 F rfl rfl rfl (H.s [6,0,1,2,3,4,5,7] rfl rfl) cl (fQ c4) n0 (fun e q=>(Eo.sl q.ld)) ((H.s [6,0,1,2,3,4,5,7] rfl rfl).l 1 rfl).one rfl fun w H=>vE (xA 4 F rfl fun a F=>kY underlying152 zeroValue152 (fun w=>by simp [sizeOf2];rfl) F rfl rfl rfl rfl rfl (oc rfl (oc rfl (oc rfl on))) rfl rfl (fun a F=>?_));refine dF (R:=oU) (y:=(ArcStep.mk x5 x6 (x:Int))) underlying149 sizeOf152 zeroValue152 rfl rfl F rfl rfl H (Eo.agg (oU.m i6 i8 j1)) (fun a w e3 H F=>?_);obtain⟨z6,c6,f⟩:=xB f;refine oPL (sz:=3) (R:=oU) (z:=(.agg #[xC 0,xC 0,xC 0])) (bytes:=24) underlying149 (by kernel_rfl) rfl rfl F rfl rfl rfl (H.s [4,0,1,2,3,5,6,7] rfl rfl) c6 fun a w bm H F=>xA 1 F rfl fun a F=>vE (xA 1 F rfl fun a F=>vE ?_);refine xA 1 F rfl fun a F=>?_;obtain⟨z7,c7,f⟩:=xB f;refine oKV F rfl rfl hg3 rfl H (hp3 _ z7 c7 _ (c1S (H.g 6 rfl).bk (H.r 1 rfl))) fun a w H F=>xG (qS F rfl (fun b0=>?_) (fun b0=>?_))
         ·
          replace f:=vY b0 f;refine xV (xA 2 F rfl fun a F=>xG (xP (vO (oJ (oJ ?_)))));replace f:=kK f ay;refine vO (oJ ?_);replace f:=kI f bj;refine vO (oJ (oJ ?_));replace f:=kK f bh;refine vO (oJ ?_);replace f:=kI f bg;refine vO (oJ (oJ ?_));replace f:=kK f bf;refine vO (oJ ?_);replace f:=kI f be;refine vO (oJ ?_);replace f:=kK f aw;refine vO (oJ ?_);replace f:=kI f bc;refine oJ (xR F rfl (xX F rfl) ?_);obtain rfl:=oj f;exact⟨_,rfl,bm,rfl,(H.s [0,1,6] rfl rfl)⟩
         replace f:=vX b0 f;refine xS (vK (xH (oM (zG F rfl rfl rfl m3 fun a F=>xA 1 F rfl fun a F=>xG ?_))));replace f:=zM f ay;exact⟨_,Nat.lt_succ_self _,X+1,O,z6,bm,true,(Y.set (x5).toNat z5),⟨D.1,D.2.2⟩,rfl,f,F.su,(H.s [2,3,0,4,5,1,6] rfl rfl)⟩
       rintro a w ⟨ai,aj,ak,al,rfl,F,H⟩
       have f:=xY bj;refine vK (xH (oM (zG F rfl rfl rfl m2 fun a F=>xA 1 F rfl fun a F=>xG ?_)));replace f:=zM f bh;exact⟨_,Nat.lt_succ_self _,M+1,U,ai,aj,ak,al,⟨I.1,I.2.2⟩,rfl,f,F.su,H⟩
     rintro a w ⟨ae,af,ag,ah,rfl,F,H⟩
     have f:=xY bg;refine vK (xH (oM (zG F rfl rfl rfl m1 fun a F=>xA 1 F rfl fun a F=>xG ?_)));replace f:=zM f bf;exact⟨_,Nat.lt_succ_self _,x+1,T,ae,af,ag,ah,⟨G.1,G.2.2⟩,rfl,f,F.su,H⟩
   rintro a w ⟨s7,v7,s8,s9,rfl,F,H⟩
   have f:=xY be;refine vK (xH ?_);replace f:=zM f aw;exact⟨t1,(by omega),s7,v7,s8,s9,f,F.su,H⟩
  replace f:=vX ax f;refine qV (qX (qX ?_));replace f:=jO f aw;refine kF (xH ?_);exact⟨s4,v6,s5,s6,(zL f),F.su,(H.s [0,3,4] rfl rfl)⟩
 rintro a w ⟨s1,v5,s2,s3,rfl,F,H⟩
 have f:=xY bc;refine xH (xV (xA 2 F rfl fun a F=>xG (xP (xR F rfl (xX F rfl) ?_))));obtain rfl:=oj f;exact⟨_,rfl,v5,rfl,H⟩
def zP (N:Nat) (p:Int) (t:List Rel) (x:Int) (y:List Con) (A e:Int) (f:List Line) (F:List Int) (i:Int) (c:List (List Int)):Option (Bool×Int×(List Line)×Int×(List (List Int))):=
 if (e==A) then
  some (false,e,f,7,c)
 else
  xZ (ck (e+1)) fun j=>
  xZ (zF c) fun B=>
  if B then
   some (true,j,f,i,c)
  else
   xZ (fP N (Template.mk p t) (Instance.mk x y) c (fun d=>zF d)) fun n=>
   zW (σ:=(List Line)) (
    qR (σ:=(List Line)) (ρ:=Bool×Int×(List Line)×Int×(List (List Int))) (fun (G:Nat) (h:ArcStep) (C:(List Line))=>
     xZ (ap C ([(Line.mk 2 h.var h.value h.con)])) fun D=>
     some (.go D)) n.1 0 f) fun E=>
   some (true,j,E,i,n.2)
theorem nQ {B:Nat→Prop} {N:Nat} {D:Int} {ad:List Rel} {E:Int} {ae:List Con} {I a1:Int} {V:List Line} {C:List Int} {Q:Int} {x1:List (List Int)} (r:Bool×Int×(List Line)×Int×(List (List Int))) (e:zP N D ad E ae I a1 V C Q x1=some r) {p:Nat} {T:Value} {U:Value} {J:Value} {j:Value} {f:Value} {Y:List Nat} (A:World) (hN:∀ c,B c→c<A.heap.size) (S0:Sep Y B A A [bx p [xC D,T,xC E,U,xC I,xC a1,J,j,xC Q] 66,rl 4 oP 77 J V,rl 1 xI 2 j C,rw N0 1 (qK 1 xI) 32 f x1]) (an:xO D) (ao:Bo B A (Sl 2 qG) T ad) (aq:xO E) (ar:Bo B A (Sl 2 qH) U ae) (c4:xO I) (au:xO a1) (ac:xO Q):Calls Tryz.prog 80 #[qC p,f] A (Gv (fun v w'=>∃ (af:Value),v= .bool r.1∧Sep Y B A w' [bx p [xC D,T,xC E,U,xC I,xC r.2.1,af,j,xC r.2.2.2.1] 66,rl 4 oP 77 af r.2.2.1,rl 1 xI 2 j C,rw N0 1 (qK 1 xI) 32 f r.2.2.2.2]∧xO r.2.1∧xO r.2.2.2.1)):=by
 unfold zP at e
 refine xW (L:=[(0,qC p),(1,f)]) func80 rfl rfl rfl (sc rfl (sc rfl sn)) (fun a F=>?_);have H:=S0;refine xV (oX F rfl rfl (lY (H.r 3 rfl).one) H fun a w b1 H F=>xA 1 F rfl fun a F=>xG (xF (xF (xQ H (by kernel_rfl) (by kernel_rfl) (xM F rfl (fun w l=>xL F rfl) fun a F=>xM F rfl (fun w l=>oY F rfl) (fun a F=>?_))))));refine xM F rfl (fun w l=>xU xBr F rfl rfl) fun a F=>qB isAgg2 F rfl rfl (H.qb 1 rfl) rfl fun a F=>xM F rfl (fun w l=>xL F rfl) fun a F=>xM F rfl (fun w l=>oY F rfl) fun a F=>xM F rfl (fun w l=>xU xNs F rfl rfl) fun a F=>qB isAgg2 F rfl rfl (H.qb 1 rfl) rfl fun a F=>xM F rfl (fun w l=>uS F rfl rfl) fun a F=>kT fun w H=>xH (qS F rfl (fun a2=>?_) (fun a2=>?_))
 ·
  replace e:=vY a2 e;refine xV (xA 1 F rfl fun a F=>qJ F rfl rfl fun a F=>oD sI F rfl rfl rfl fun a F=>oW sizeOf2 F rfl rfl rfl (H.s [1,0,2,3,4] rfl rfl) rfl rfl rfl fun w H=>vE (xA 1 F rfl fun a F=>?_));refine xG (xP (oJ (xR F rfl (xX F rfl) ?_)));obtain rfl:=oj e;exact⟨_,rfl,J,rfl,(H.s [0,2,3,4] rfl rfl),au,(show xO (7) by decide)⟩
 replace e:=vX a2 e;refine xS (xH (xV (xA 1 F rfl fun a F=>qJ F rfl rfl fun a F=>oD xBr F rfl rfl rfl fun a F=>oB isAgg2 F rfl rfl (H.b 1 rfl) rfl (fun a F=>?_))));obtain⟨z1,c1,e⟩:=xB e;refine cR F rfl rfl rfl c1 fun a F=>qJ F rfl rfl fun a F=>oD xBr F rfl rfl rfl fun a F=>oW sizeOf2 F rfl rfl rfl (H.s [1,0,2,3,4] rfl rfl) rfl rfl rfl fun w H=>vE (rF F rfl rfl rfl fun a F=>xA 1 F rfl fun a F=>zE ?_);refine xH (xF (xV (xA 1 F rfl fun a F=>?_)));obtain⟨z2,aw,e⟩:=xB e;refine oKV (lb:=[qC b1]) F rfl rfl call119 rfl H (gN z2 aw _ aA (c1S (H.g 1 rfl).bk (H.r 4 rfl))) fun a w H F=>xG (qS F rfl (fun a3=>?_) (fun a3=>?_))
 ·
  replace e:=vY a3 e;refine xV (xA 1 F rfl fun a F=>xG (xP (oJ (xR F rfl (xX F rfl) ?_))));obtain rfl:=oj e;exact⟨_,rfl,J,rfl,(H.s [0,2,3,4] rfl rfl),(kQ c1),ac⟩
 replace e:=vX a3 e;refine xS (xH (xF (xF ?_)));obtain⟨i,c2,e⟩:=xB e;obtain⟨w1,rfl⟩:∃ x,x=w:=⟨_,rfl⟩;have c5:=H.sm;obtain⟨X1,N1,g1,e1,H,av,c6⟩:=H.fza;have K1:=g1.bk;refine xD H (by kernel_rfl) fun w H=>qP 0 rfl (by kernel_rfl) (xN F rfl (fun w l=>xL F rfl) fun a F=>oV 1 rfl (by kernel_rfl) (xN F rfl (fun w l=>oY F rfl) fun a F=>oV 2 rfl (by kernel_rfl) (xN F rfl (fun w l=>xU xMx F rfl rfl) fun a F=>oV 3 rfl (by kernel_rfl) (vBA isAgg26 sizeOf26 F rfl rfl (K1.v H.sm) rfl rfl fun a F=>qP 4 rfl (by kernel_rfl) (xN F rfl (fun w l=>xL F rfl) (fun a F=>?_))))));refine oV 5 rfl (by kernel_rfl) (xN F rfl (fun w l=>oY F rfl) fun a F=>oV 6 rfl (by kernel_rfl) (xN F rfl (fun w l=>xU xMz F rfl rfl) fun a F=>oV 7 rfl (by kernel_rfl) (vBA isAgg29 sizeOf29 F rfl rfl (K1.v H.sm) rfl rfl fun a F=>qP 9 rfl (by kernel_rfl) (xN F rfl (fun w l=>xL F rfl) fun a F=>qP 12 rfl (by kernel_rfl) (xN F rfl (fun w l=>xL F rfl) fun a F=>xE H 8 rfl (by kernel_rfl) ?_)))));refine oB isAgg55 F rfl rfl (H.b 0 rfl) rfl fun a F=>xG ⟨⟨_,H⟩,?_⟩;refine xE H 10 rfl (by kernel_rfl) ?_;obtain⟨X2,K2,ax⟩:=Sep.lend (K:=[rw N0 1 (qK 1 xI) 32 f x1,bx b1 [f] 55]) (L:=[rl 4 oP 77 J V,rl 1 xI 2 j C]) (H.s [3,0,1,2] rfl rfl);refine oG F rfl call121 rfl (tR i c2 _ H.hN K2 (xJ.m an (H.u (e1 ao))) (xK.m aq (H.u (e1 ar))) call119 (fun d r h W hb=>gN r h W aA hb)) (fun a vv w ⟨Z,c7,S⟩ F=>?_);subst vv;have H:Sep X1 N1 w1 w [rl 3 oU 152 Z i.1,rw N0 1 (qK 1 xI) 32 f i.2,bx b1 [f] 55,rl 4 oP 77 J V,rl 1 xI 2 j C]:=ax S;refine xG ⟨⟨_,H⟩,?_⟩;refine xE H 11 rfl (by kernel_rfl) (oL underlying149 F rfl rfl (H.l 0 rfl) fun a i1 F=>xG ⟨⟨_,H⟩,?_⟩);refine vP (by kernel_rfl) (xH ?_);have H:=(av.1 H (Ns.all ⟨n0,⟨n0,⟨n0,⟨n0,⟨n0,trivial⟩⟩⟩⟩⟩));obtain⟨o1,e,ay⟩:=xT e;refine oR (fun a w=>∃ (s1:List Line) (v3:Value),o1= .nx s1∧Sk a 63 [(0,qC p),(1,f)]∧Sep Y B A w [bx p [xC D,T,xC E,U,xC I,xC z1,v3,j,xC Q] 66,rw N0 1 (qK 1 xI) 32 f i.2,rl 4 oP 77 v3 s1,rl 1 xI 2 j C]) ?_ ?_
 ·
  refine oQ ?_;obtain⟨az,b0,e⟩:=qZ e;refine qY (fun g a w=>∃ (M:Nat) (O:List ArcStep) (X:List Line) (P:Value),(M≤i.1.length∧i.1.drop M=O)∧O.length=g∧qR az O M X=some o1∧Sk a 63 [(42,xC (M:Int)),(0,qC p),(1,f),(40,Z),(41,xC (i.1.length:Int))]∧Sep Y B A w [bx p [xC D,T,xC E,U,xC I,xC z1,P,j,xC Q] 66,rl 3 oU 152 Z i.1,rw N0 1 (qK 1 xI) 32 f i.2,rl 4 oP 77 P X,rl 1 xI 2 j C]) i.1.length ?_ ?_
  ·
   exact⟨0,i.1,V,J,⟨Nat.zero_le _,rfl⟩,rfl,e,F.su,(H.s [0,1,2,4,5] rfl rfl)⟩
  intro g2 a w ⟨M,O,X,P,t,hg1,e,F,H⟩
  cases O with
  | nil=>
   replace e:=vA e;have q1:=vC t.1 t.2;have l1:=zK q1;refine xV (xA 1 F rfl fun a F=>xG (xF (zS F rfl l1 (qV (qX (qX (kF ?_)))))));refine xH ?_;exact⟨X,P,(zL e),F.su,(H.s [0,2,3,4] rfl rfl)⟩
  | cons n O=>
   subst hg1;replace t:=qE t.2;have y1:=vH t.2.1;obtain⟨c8,e,hn1⟩:=qM e;rw[b0] at e;have l1:=vR t.1;refine xV (xA 1 F rfl fun a F=>xG (xF (zQ F rfl l1 (xS (xH (xF ?_))))));have j1:=k64 (Nat.le_of_lt t.1) i1;have m1:=kO t.1 i1;refine oQ (xV ?_);obtain⟨w2,rfl⟩:∃ x,x=w:=⟨_,rfl⟩;have c9:=H.sm;obtain⟨X3,N2,g3,e2,H,b3,ca⟩:=(H.s [1,0,2,3,4] rfl rfl).fza;have h1:=g3.ld;refine oI underlying149 sizeOf152 F rfl rfl rfl h1 y1 fun a p1 h2 F=>olA isAgg152 sizeOf152 F rfl rfl H.sm h2 fun a v5 h3 F=>oA zeroValue152 F rfl rfl H (fun a w b2 H F=>?_);obtain⟨rfl,i2,i3,i4⟩:=oU.o h3;refine eX (vs:=[xC n.var,xC n.value,xC n.con]) sizeOf152 F rfl rfl rfl H (oc rfl (oc rfl (oc rfl on))) rfl rfl fun w H=>xG ?_;obtain⟨z4,c3,e⟩:=xB e;obtain⟨w3,rfl⟩:∃ x,x=w:=⟨_,rfl⟩;have cb:=H.sm;obtain⟨X4,N3,g4,e3,H,b4,cc⟩:=H.fza;have K3:=g4.bk;refine xD H (by kernel_rfl) fun w H=>dp (fun G=>∀ (v6:Value) (a:Act) (w:World),Sk a 63 [(0,qC p),(1,f),(40,Z),(41,xC (i.1.length:Int)),(42,xC (M:Int)),(46,qC p),(50,P),(58,v6)]→Sep X4 N3 w3 w [rl 4 oP 77 v6 ([(Line.mk 2 n.var n.value n.con)]),bx p [xC D,T,xC E,U,xC I,xC z1,P,j,xC Q] 66,rw N0 1 (qK 1 xI) 32 f i.2,rl 4 oP 77 P X,rl 1 xI 2 j C]→∀ ls,ls = #[true,true,true,true,true,true,true,true,true,true,true,true,true,false,false,false,false]→G 4 ls a w) ?_ (fun H1=>?_)
   ·
    intro v6 a w F H ls b5;subst b5;refine xE H 13 rfl (by kernel_rfl) (oPL (sz:=4) (R:=oP) (z:=(.agg #[xC 0,xC 0,xC 0,xC 0])) (bytes:=32) underlying35 (by kernel_rfl) rfl rfl F rfl rfl rfl (H.s [3,0,1,2,4] rfl rfl) c3 fun a w v7 H F=>xG ⟨⟨_,H⟩,?_⟩);refine oV 14 rfl (by kernel_rfl) (xN F rfl (fun w l=>oY F rfl) fun a F=>oV 15 rfl (by kernel_rfl) (xN F rfl (fun w l=>xU nV F rfl rfl) fun a F=>xE H 16 rfl (by kernel_rfl) (oW sizeOf35 F rfl rfl rfl (H.s [1,0,2,3] rfl rfl) ((H.s [1,0,2,3] rfl rfl).l 1 rfl).one rfl rfl fun w H=>xG ⟨⟨_,H⟩,?_⟩)));refine vP (by kernel_rfl) (vK (xH (oM (zG F rfl rfl rfl m1 fun a F=>xA 1 F rfl fun a F=>xG ?_))));replace e:=zM e hn1;exact⟨_,Nat.lt_succ_self _,M+1,O,z4,v7,⟨t.1,t.2.2⟩,rfl,e,F.su,((b3.1 (b4.1 H (Ns.all ⟨n0,⟨n0,⟨n0,⟨n0,trivial⟩⟩⟩⟩)) (Ns.all ⟨n0,⟨n0,⟨n0,⟨n0,⟨n0,trivial⟩⟩⟩⟩⟩)).s [2,0,4,3,5] rfl rfl)⟩
   refine qP 0 rfl (by kernel_rfl) (xN F rfl (fun w l=>xL F rfl) fun a F=>qP 1 rfl (by kernel_rfl) (xN F rfl (fun w l=>xL F rfl) fun a F=>oV 2 rfl (by kernel_rfl) (xN F rfl (fun w l=>oY F rfl) fun a F=>oV 3 rfl (by kernel_rfl) (xN F rfl (fun w l=>xU nV F rfl rfl) fun a F=>oV 5 rfl (by kernel_rfl) (xN F rfl (fun w l=>xU rQ F rfl rfl) fun a F=>oV 6 rfl (by kernel_rfl) ?_)))));refine vB isAgg2 F rfl rfl (K3.v H.sm) rfl fun a F=>oV 7 rfl (by kernel_rfl) (xN F rfl (fun w l=>xU uB F rfl rfl) fun a F=>oV 8 rfl (by kernel_rfl) (vB isAgg2 F rfl rfl (K3.v H.sm) rfl fun a F=>oV 9 rfl (by kernel_rfl) (xN F rfl (fun w l=>xU uC F rfl rfl) fun a F=>oV 10 rfl (by kernel_rfl) (vB isAgg2 F rfl rfl (K3.v H.sm) rfl fun a F=>oV 11 rfl (by kernel_rfl) (xN F rfl (fun w l=>jV underlying77 zeroValue77 (fun w=>by simp [sizeOf2];rfl) F rfl rfl rfl rfl (oc rfl (oc rfl (oc rfl (oc rfl on)))) rfl rfl) (fun a F=>?_))))));refine kH [4,12] (by kernel_rfl) (by simp) ⟨⟨_,rfl,?_⟩,⟨_,rfl,?_⟩,trivial⟩
   ·
    refine kC H (oB isAgg35 F rfl rfl (H.b 0 rfl) rfl fun a F=>xG ⟨⟨_,H⟩,?_⟩);refine xE H 12 rfl (by kernel_rfl) (dF (R:=oP) (y:=(Line.mk 2 n.var n.value n.con)) underlying35 sizeOf77 zeroValue77 rfl rfl F rfl rfl H (Eo.agg (oP.m (show xO (2) by decide) i2 i3 i4)) fun a w v8 H F=>xG ⟨⟨_,H⟩,?_⟩);exact H1 v8 _ _ (F.su) H _ (by kernel_rfl)
   refine kC H (dF (R:=oP) (y:=(Line.mk 2 n.var n.value n.con)) underlying35 sizeOf77 zeroValue77 rfl rfl F rfl rfl H (Eo.agg (oP.m (show xO (2) by decide) i2 i3 i4)) fun a w v9 H F=>xG ⟨⟨_,H⟩,?_⟩);refine xE H 4 rfl (by kernel_rfl) (oB isAgg35 F rfl rfl (H.b 1 rfl) rfl fun a F=>xG ⟨⟨_,H⟩,?_⟩);exact H1 v9 _ _ (F.su) H _ (by kernel_rfl)
 rintro a w ⟨s1,v3,rfl,F,H⟩
 have e:=xY ay;refine xH (xV (xA 1 F rfl fun a F=>xG (xP (xR F rfl (xX F rfl) ?_))));obtain rfl:=oj e;exact⟨_,rfl,v3,rfl,(H.s [0,2,3,1] rfl rfl),(kQ c1),ac⟩
def iO (d:List (List Int)):Option Int:=
 zW (σ:=Int) (
  qR (σ:=Int) (ρ:=Int) (fun (f:Nat) (e:(List Int)) (c:Int)=>
   zW (σ:=Bool) (
    if (decide (2≤(e.length:Int))) then  if (decide (c<0)) then  some (.nx true) else  xZ (ix d c) fun h=>
      some (.nx (decide ((e.length:Int)<(h.length:Int)))) else  some (.nx false)) fun i=>
   if i then
    some (.go (f:Int))
   else
    some (.go c)) d 0 (-1)) fun j=>
 some j
theorem yR {B:Nat→Prop} {h:List (List Int)} (r:Int) (d:iO h=some r) {n:Value} (p:World) (T:∀ c,B c→c<p.heap.size) (C:Bo B p (Sl 1 (qK 1 xI)) n h):Calls Tryz.prog 83 #[n] p (gF r p):=by
 unfold iO at d
 refine xW (L:=[(0,n)]) func83 rfl rfl rfl (sc rfl sn) (fun a F=>?_);have H:=Sep.start T;refine xV (xA 1 F rfl fun a F=>vE (xA 1 F rfl fun a F=>xG (xF ?_)));refine xV (xA 1 F rfl fun a F=>oL underlying55 F rfl rfl C fun a I F=>xA 1 F rfl fun a F=>xG ?_);obtain⟨J,d,O⟩:=xT d;refine oR (fun a w=>∃ (y:Int),J= .nx y∧Sk a 33 [(3,xC y)]∧Sep [] B p w []∧xO y) ?_ ?_
 ·
  refine oQ ?_;obtain⟨P,Q,d⟩:=qZ d;refine qY (fun g a w=>∃ (f:Nat) (i:List (List Int)) (j:Int),(f≤h.length∧h.drop f=i)∧i.length=g∧qR P i f j=some J∧Sk a 33 [(8,xC (f:Int)),(0,n),(3,xC j),(6,n),(7,xC (h.length:Int))]∧Sep [] B p w []∧xO j) h.length ?_ ?_
  ·
   exact⟨0,h,(-1),⟨Nat.zero_le _,rfl⟩,rfl,d,F.su,H,(show xO (-1) by decide)⟩
  intro g1 a w ⟨f,i,j,e,R,d,F,H,K⟩
  cases i with
  | nil=>
   replace d:=vA d;have U:=vC e.1 e.2;have l1:=zK U;refine xV (xA 1 F rfl fun a F=>xG (xF (zS F rfl l1 (qV (qX (qX (kF ?_)))))));refine xH ?_;exact⟨j,(zL d),F.su,H,K⟩
  | cons M i=>
   subst R;replace e:=qE e.2;have V:=vH e.2.1;obtain⟨a4,d,E⟩:=qM d;rw[Q] at d;have l1:=vR e.1;refine xV (xA 1 F rfl fun a F=>xG (xF (zQ F rfl l1 (xS (xH (xF ?_))))));have W:=k64 (Nat.le_of_lt e.1) I;have N:=kO e.1 I;refine oQ (xV (xA 1 F rfl fun a F=>oI underlying55 sizeOf32 F rfl rfl rfl C V fun a p1 X F=>gX isAgg32 F rfl rfl H.sm X fun a v1 G F=>xA 2 F rfl fun a F=>xG (xF ?_)));obtain⟨Y,d,S⟩:=xT d;refine oR (fun a w=>∃ (D:Bool),Y= .nx D∧Sk a 33 [(0,n),(3,xC j),(4,xC (f:Int)),(6,n),(7,xC (h.length:Int)),(8,xC (f:Int)),(29,.bool D)]∧Sep [] B p w []) ?_ ?_
   ·
    refine oM (xA 1 F rfl fun a F=>oL underlying32 F rfl rfl G fun a i3 F=>xA 2 F rfl fun a F=>?_)
    rcases vJ (decide (2≤(M.length:Int))) with t | t
    ·
     replace d:=vY t d;have F:=F.eb 16 rfl t;refine xA 3 F rfl fun a F=>?_
     rcases vJ (decide (j<0)) with x | x
     ·
      replace d:=vY x d;have F:=F.eb 19 rfl x;refine xA 10 F rfl fun a F=>zE ?_;refine xH ?_;exact⟨true,(zL d),F.su,H⟩
     replace d:=vX x d;have F:=F.eb 19 rfl x;refine xA 1 F rfl fun a F=>oL underlying32 F rfl rfl G fun a i4 F=>xA 2 F rfl fun a F=>?_;obtain⟨Z,c1,d⟩:=xB d;refine oI underlying55 sizeOf32 F rfl rfl rfl C c1 fun a p2 h2 F=>gX isAgg32 F rfl rfl H.sm h2 fun a v2 h3 F=>oL underlying32 F rfl rfl h3 fun a i5 F=>xA 3 F rfl fun a F=>xG ?_;exact⟨(decide ((M.length:Int)<(Z.length:Int))),(zL d),F.su,H⟩
    replace d:=vX t d;have F:=F.eb 16 rfl t;refine xA 11 F rfl fun a F=>?_;refine xA 2 F rfl fun a F=>xG ?_;exact⟨false,(zL d),F.su,H⟩
   rintro a w ⟨D,rfl,F,H⟩
   have d:=xY S;refine xH (qS F rfl (fun A=>?_) (fun A=>?_))
   ·
    replace d:=vY A d;refine oM (xA 2 F rfl fun a F=>zE (vK (xH (oM (zG F rfl rfl rfl N fun a F=>xA 1 F rfl fun a F=>xG ?_)))));replace d:=zM d E;exact⟨_,Nat.lt_succ_self _,f+1,i,(f:Int),⟨e.1,e.2.2⟩,rfl,d,F.su,H,W⟩
   replace d:=vX A d;refine xS (vK (xH (oM (zG F rfl rfl rfl N fun a F=>xA 1 F rfl fun a F=>xG ?_))));replace d:=zM d E;exact⟨_,Nat.lt_succ_self _,f+1,i,j,⟨e.1,e.2.2⟩,rfl,d,F.su,H,K⟩
 rintro a w ⟨y,rfl,F,H,i6⟩
 have d:=xY O;refine xH (xV (xA 2 F rfl fun a F=>xG (xP (xR F rfl (xX F rfl) ?_))));obtain rfl:=oj d;exact⟨⟨rfl,H.bl⟩,i6⟩
def dA (c:List (List Int)):Option (List (List Int)):=
 zW (σ:=(List (List Int))) (
  qR (σ:=(List (List Int))) (ρ:=(List (List Int))) (fun (j:Nat) (d:(List Int)) (e:(List (List Int)))=>
   xZ (zJ d) fun f=>
   xZ (ap e ([f])) fun h=>
   some (.go h)) c 0 []) fun i=>
 some i
theorem mR {B:Nat→Prop} {f:List (List Int)} (r:(List (List Int))) (d:dA f=some r) {n:Value} (i:World) (P:∀ c,B c→c<i.heap.size) (E:Bo B i (Sl 1 (qK 1 xI)) n f):Calls Tryz.prog 84 #[n] i (Gv (fun v w'=>∃ (C:Value),v=C∧Sep [] B i w' [rl 1 (qK 1 xI) 32 C r])):=by
 unfold dA at d
 refine xW (L:=[(0,n)]) func84 rfl rfl rfl (sc rfl sn) (fun a F=>?_);have H:=Sep.start P;refine xV (xA 1 F rfl fun a F=>vE (oR0 (R:=(qK 1 xI)) underlying55 sizeOf32 F rfl H fun a w Q H F=>xA 1 F rfl fun a F=>xG ?_));refine xF (xV (xA 1 F rfl fun a F=>oL underlying55 F rfl rfl E fun a G F=>xA 1 F rfl fun a F=>xG ?_));obtain⟨D,d,J⟩:=xT d;refine oR (fun a w=>∃ (A:List (List Int)) (p:Value),D= .nx A∧Sk a 20 [(3,p)]∧Sep [] B i w [rl 1 (qK 1 xI) 32 p A]) ?_ ?_
 ·
  refine oQ ?_;obtain⟨K,M,d⟩:=qZ d;refine qY (fun g a w=>∃ (j:Nat) (h t:List (List Int)) (x:Value),(j≤f.length∧f.drop j=h)∧h.length=g∧qR K h j t=some D∧Sk a 20 [(9,xC (j:Int)),(3,x),(7,n),(8,xC (f.length:Int))]∧Sep [] B i w [rl 1 (qK 1 xI) 32 x t]) f.length ?_ ?_
  ·
   exact⟨0,f,[],Q,⟨Nat.zero_le _,rfl⟩,rfl,d,F.su,H⟩
  intro g1 a w ⟨j,h,t,x,e,N,d,F,H⟩
  cases h with
  | nil=>
   replace d:=vA d;have T:=vC e.1 e.2;have l1:=zK T;refine xV (xA 1 F rfl fun a F=>xG (xF (zS F rfl l1 (qV (qX (qX (kF ?_)))))));refine xH ?_;exact⟨t,x,(zL d),F.su,H⟩
  | cons x1 h=>
   subst N;replace e:=qE e.2;have U:=vH e.2.1;obtain⟨a3,d,O⟩:=qM d;rw[M] at d;have l1:=vR e.1;refine xV (xA 1 F rfl fun a F=>xG (xF (zQ F rfl l1 (xS (xH (xF ?_))))));have j1:=k64 (Nat.le_of_lt e.1) G;have V:=kO e.1 G;refine oQ (xV (oI underlying55 sizeOf32 F rfl rfl rfl E U fun a p1 W F=>gX isAgg32 F rfl rfl H.sm W fun a v4 X F=>xA 1 F rfl fun a F=>xG (oM (xA 2 F rfl fun a F=>?_))));obtain⟨I,Y,d⟩:=xB d;refine oG F rfl call122 rfl (bI I Y _ aA (H.a X)) (fun a Z w ⟨v5,a4,S⟩ F=>?_);subst Z;have H:=H.r1 S n0;have H:=H.os;refine dY (R:=(qK 1 xI)) (y:=I) underlying55 sizeOf32 zeroValue32 rfl rfl F rfl rfl H El.sl (fun a w v6 H F=>?_);obtain⟨z2,c2,d⟩:=xB d;refine oPL (sz:=1) (R:=(qK 1 xI)) (z:=(qQ)) (bytes:=24) underlying55 (by kernel_rfl) rfl rfl F rfl rfl rfl (H.s [1,0] rfl rfl) c2 fun a w v7 H F=>xA 1 F rfl fun a F=>zE (vK (xH (oM (zG F rfl rfl rfl V fun a F=>xA 1 F rfl fun a F=>xG ?_))));replace d:=zM d O;exact⟨_,Nat.lt_succ_self _,j+1,h,z2,v7,⟨e.1,e.2.2⟩,rfl,d,F.su,H⟩
 rintro a w ⟨A,p,rfl,F,H⟩
 have d:=xY J;refine xH (xV (xA 2 F rfl fun a F=>xG (xP (xR F rfl (xX F rfl) ?_))));obtain rfl:=oj d;exact⟨_,rfl,p,rfl,H⟩
def vM:Nat→Int→(List Rel)→Int→(List Con)→Int→Int→(List Line)→(List Int)→Int→(List (List Int))→Option (Bool×Int×(List Line)×(List Int)×Int×(List (List Int)))
  | 0,_,_,_,_,_,_,_,_,_,_=>none
  | N+1,i,j,n,p,t,B,C,D,E,J=>
  zW (σ:=(List (List Int))×Int×(List Line)×(List Int)×Int) (
   fE (σ:=(List (List Int))×Int×(List Line)×(List Int)×Int) (ρ:=Bool×Int×(List Line)×(List Int)×Int×(List (List Int))) (fun(s:(List (List Int))×Int×(List Line)×(List Int)×Int)=>
     match s with
     | (K,L,M,f,O)=>
     xZ (zP N i j n p t L M f O K) fun c=>
     if c.1 then
      xZ (vW c.2.2.2.2 (fun P=>dV P)) fun y=>
      if (decide (0≤y)) then
       xZ (ap c.2.2.1 ([(Line.mk 3 y 0 0)])) fun Q=>
       some (.ret (true,c.2.1,Q,f,c.2.2.2.1,c.2.2.2.2))
      else
       xZ (iO c.2.2.2.2) fun e=>
       if (decide (e<0)) then
        zW (σ:=(List Int)) (
         qR (σ:=(List Int)) (ρ:=(Ctl ((List (List Int))×Int×(List Line)×(List Int)×Int) (Bool×Int×(List Line)×(List Int)×Int×(List (List Int))))) (fun (k1:Nat) (R S:(List Int))=>
          xZ (ix R 0) fun T=>
          xZ (ap S ([T])) fun U=>
          some (.go U)) c.2.2.2.2 0 []) fun V=>
        some (.ret (false,c.2.1,c.2.2.1,V,c.2.2.2.1,c.2.2.2.2))
       else
        xZ (ix c.2.2.2.2 e) fun A=>
        xZ (ix A 0) fun h=>
        xZ (ap c.2.2.1 ([(Line.mk 1 e h 0)])) fun W=>
        xZ (dA c.2.2.2.2) fun x=>
        xZ (ix x e) fun Z=>
        xZ (vM N i j n p t c.2.1 W f c.2.2.2.1 (x.set (e).toNat ([h]))) fun d=>
        if (!d.1) then
         some (.ret (false,d.2.1,d.2.2.1,d.2.2.2.1,d.2.2.2.2.1,c.2.2.2.2))
        else
         xZ (kR N A h) fun F=>
         some (.go ((c.2.2.2.2.set (e).toNat F),d.2.1,d.2.2.1,d.2.2.2.1,d.2.2.2.2.1))
     else
      some (.brk (c.2.2.2.2,c.2.1,c.2.2.1,f,c.2.2.2.1))) N (J,B,C,D,E)) fun(X,Y,G,H,I)=>
  some (false,Y,G,H,I,X)
theorem mL:∀ (N:Nat) {B:Nat→Prop} {n:Int} {a7:List Rel} {p:Int} {a8:List Con} {t X:Int} {Z:List Line} {x0_7:List Int} {Y:Int} {x1:List (List Int)} (r:Bool×Int×(List Line)×(List Int)×Int×(List (List Int))) (d:vM N n a7 p a8 t X Z x0_7 Y x1=some r) {i:Nat} {C:Value} {D:Value} {a9:Value} {aa:Value} {j:Value} {O:List Nat} (A:World) (hN:∀ c,B c→c<A.heap.size) (S0:Sep O B A A [bx i [xC n,C,xC p,D,xC t,xC X,a9,aa,xC Y] 66,rl 4 oP 77 a9 Z,rl 1 xI 2 aa x0_7,rw N0 1 (qK 1 xI) 32 j x1]) (aq:xO n) (ar:Bo B A (Sl 2 qG) C a7) (au:xO p) (av:Bo B A (Sl 2 qH) D a8) (aw:xO t) (ba:xO X) (bb:xO Y),Calls Tryz.prog 48 #[qC i,j] A (Gv (fun v w'=>∃ (bc be:Value),v= .bool r.1∧Sep O B A w' [bx i [xC n,C,xC p,D,xC t,xC r.2.1,bc,be,xC r.2.2.2.2.1] 66,rl 4 oP 77 bc r.2.2.1,rl 1 xI 2 be r.2.2.2.1,rw N0 1 (qK 1 xI) 32 j r.2.2.2.2.2]∧xO r.2.1∧xO r.2.2.2.2.1)):=by
  intro N
  induction N with
  | zero=>intro B n a7 p a8 t X Z x0_7 Y x1 r d;unfold vM at d;cases d
  | succ N ih=>
  intro B n a7 p a8 t X Z x0_7 Y x1 r d i C D a9 aa j O A hN S0 aq ar au av aw ba bb;rw[vM] at d;refine xW (L:=[(0,qC i),(1,j)]) func48 rfl rfl rfl (sc rfl (sc rfl sn)) (fun a F=>?_);have H:=S0;refine xV (xA 1 F rfl fun a F=>xG (xF ?_));obtain⟨o1,d,ab⟩:=xT d;refine oR (fun a w=>∃ (s1:List (List Int)) (s2:Int) (s3:List Line) (v2:Value) (s4:List Int) (v3:Value) (s5:Int),o1= .nx (s1,s2,s3,s4,s5)∧Sk a 94 [(0,qC i),(1,j)]∧Sep O B A w [bx i [xC n,C,xC p,D,xC t,xC s2,v2,v3,xC s5] 66,rl 4 oP 77 v2 s3,rl 1 xI 2 v3 s4,rw N0 1 (qK 1 xI) 32 j s1]∧xO s2∧xO s5) ?_ ?_
  ·
   refine oQ ?_;obtain⟨fl1,hf1,d⟩:=dE d;refine qY (fun g a w=>∃ (s6:List (List Int)) (s7:Int) (s8:List Line) (v4:Value) (Q:List Int) (E:Value) (a1:Int),fE fl1 g (s6,s7,s8,Q,a1)=some o1∧Sk a 94 [(0,qC i),(1,j)]∧Sep O B A w [bx i [xC n,C,xC p,D,xC t,xC s7,v4,E,xC a1] 66,rl 4 oP 77 v4 s8,rl 1 xI 2 E Q,rw N0 1 (qK 1 xI) 32 j s6]∧xO s7∧xO a1) N ?_ ?_
   ·
    exact⟨x1,X,Z,a9,x0_7,aa,Y,d,F.su,H,ba,bb⟩
   intro g1 a w ⟨s6,s7,s8,v4,Q,E,a1,d,F,H,i1,i2⟩;obtain⟨dr,t1,ds,d,a2⟩:=aQ d;rw[hf1] at d;refine xF (xV (xA 2 F rfl fun a F=>?_));obtain⟨f,c1,d⟩:=xB d;obtain⟨X1,K1,bk1⟩:=Sep.lend (K:=[bx i [xC n,C,xC p,D,xC t,xC s7,v4,E,xC a1] 66,rl 4 oP 77 v4 s8,rl 1 xI 2 E Q,rw N0 1 (qK 1 xI) 32 j s6]) (L:=[]) H;refine oG F rfl call80 rfl (nQ f c1 _ H.hN K1 aq (H.u ar) au (H.u av) aw i1 i2) (fun a T w ⟨M,du,S,i3,i4⟩ F=>?_);subst T;have H:Sep O B A w [bx i [xC n,C,xC p,D,xC t,xC f.2.1,M,E,xC f.2.2.2.1] 66,rl 4 oP 77 M f.2.2.1,rl 1 xI 2 E Q,rw N0 1 (qK 1 xI) 32 j f.2.2.2.2]:=bk1 S;refine xG (qS F rfl (fun ax=>?_) (fun ax=>?_))
   ·
    replace d:=vY ax d;refine xS (xH (oQ (xF (xV (xA 1 F rfl fun a F=>?_)))));obtain⟨z2,c2,d⟩:=xB d;refine oKI F rfl call81 rfl H (bL z2 c2 _ aA (H.r 3 rfl) call82 (fun a0 r h W l1 u0 f0=>nM r h W aA f0)) fun a w H iz1 F=>xA 1 F rfl fun a F=>vE (xA 2 F rfl fun a F=>xG (qS F rfl (fun ay=>?_) (fun ay=>?_)))
    ·
     replace d:=vY ay d;refine xV (xA 2 F rfl fun a F=>qJ F rfl rfl fun a F=>oD nV F rfl rfl rfl fun a F=>oB isAgg35 F rfl rfl (H.b 0 rfl) rfl fun a F=>xA 1 F rfl fun a F=>kY underlying77 zeroValue77 (fun w=>by simp [sizeOf2];rfl) F rfl rfl rfl rfl rfl (oc rfl (oc rfl on)) rfl rfl fun a F=>dF (R:=oP) (y:=(Line.mk 3 z2 0 0)) underlying35 sizeOf77 zeroValue77 rfl rfl F rfl rfl H (Eo.agg (oP.m (show xO (3) by decide) iz1 (show xO 0 by decide) (show xO 0 by decide))) (fun a w v7 H F=>?_));obtain⟨z3,c3,d⟩:=xB d;refine oPL (sz:=4) (R:=oP) (z:=(.agg #[xC 0,xC 0,xC 0,xC 0])) (bytes:=32) underlying35 (by kernel_rfl) rfl rfl F rfl rfl rfl (H.s [2,0,1,3,4] rfl rfl) c3 fun a w v8 H F=>qJ F rfl rfl fun a F=>oD nV F rfl rfl rfl fun a F=>oW sizeOf35 F rfl rfl rfl (H.s [1,0,2,3] rfl rfl) ((H.s [1,0,2,3] rfl rfl).l 1 rfl).one rfl rfl fun w H=>vE (xA 1 F rfl fun a F=>xG ?_);refine xP (oJ (vO (oJ ?_)));replace d:=kK d a2;refine vO (oJ ?_);replace d:=kI d ab;refine oJ (xR F rfl (xX F rfl) ?_);obtain rfl:=oj d;exact⟨_,rfl,v8,E,rfl,H,i3,i4⟩
    replace d:=vX ay d;refine xS (xH (xV (xA 1 F rfl fun a F=>?_)));obtain⟨z4,c4,d⟩:=xB d;refine oKI F rfl call83 rfl H (yR z4 c4 _ aA (H.r 3 rfl)) fun a w H iz2 F=>xA 1 F rfl fun a F=>xG (xF (xV (xA 2 F rfl fun a F=>xG ?_)));refine qS F rfl (fun az=>?_) (fun az=>?_)
    ·
     replace d:=vY az d;refine xV (xA 1 F rfl fun a F=>oR0 (R:=xI) underlying32 sizeOf2 F rfl H fun a w v9 H F=>qJ F rfl rfl fun a F=>oD xAx F rfl rfl rfl fun a F=>oW sizeOf32 F rfl rfl rfl (H.s [1,0,2,3,4] rfl rfl) ((H.s [1,0,2,3,4] rfl rfl).l 1 rfl).one rfl rfl fun w H=>xG (xF (xF ?_)));refine oM (xA 1 F rfl fun a F=>oL underlying55 F rfl rfl (H.r 4 rfl) fun a i5 F=>xA 1 F rfl fun a F=>xG ?_);obtain⟨o2,d,hk2⟩:=xT d;refine oR (fun a w=>∃ (b0:List Int) (ac:Value),o2= .nx b0∧Sk a 94 [(0,qC i),(1,j)]∧Sep O B A w [bx i [xC n,C,xC p,D,xC t,xC f.2.1,M,ac,xC f.2.2.2.1] 66,rl 1 xI 2 ac b0,rl 4 oP 77 M f.2.2.1,rw N0 1 (qK 1 xI) 32 j f.2.2.2.2]) ?_ ?_
     ·
      refine oQ ?_;obtain⟨fl2,hf2,d⟩:=qZ d;refine qY (fun g a w=>∃ (U:Nat) (V:List (List Int)) (a3:List Int) (P:Value),(U≤f.2.2.2.2.length∧f.2.2.2.2.drop U=V)∧V.length=g∧qR fl2 V U a3=some o2∧Sk a 94 [(39,xC (U:Int)),(0,qC i),(1,j),(37,j),(38,xC (f.2.2.2.2.length:Int))]∧Sep O B A w [bx i [xC n,C,xC p,D,xC t,xC f.2.1,M,P,xC f.2.2.2.1] 66,rl 1 xI 2 P a3,rl 4 oP 77 M f.2.2.1,rw N0 1 (qK 1 xI) 32 j f.2.2.2.2]) f.2.2.2.2.length ?_ ?_
      ·
       exact⟨0,f.2.2.2.2,[],v9,⟨Nat.zero_le _,rfl⟩,rfl,d,F.su,(H.s [0,1,2,4] rfl rfl)⟩
      intro g2 a w ⟨U,V,a3,P,I,hg2,d,F,H⟩
      cases V with
      | nil=>
       replace d:=vA d;have q1:=vC I.1 I.2;have l2:=zK q1;refine xV (xA 1 F rfl fun a F=>xG (xF (zS F rfl l2 (qV (qX (qX (kF ?_)))))));refine xH ?_;exact⟨a3,P,(zL d),F.su,H⟩
      | cons x2 V=>
       subst hg2;replace I:=qE I.2;have y1:=vH I.2.1;obtain⟨dw,d,ca⟩:=qM d;rw[hf2] at d;have l2:=vR I.1;refine xV (xA 1 F rfl fun a F=>xG (xF (zQ F rfl l2 (xS (xH (xF ?_))))));have j1:=k64 (Nat.le_of_lt I.1) i5;have m1:=kO I.1 i5;refine oQ (xV ?_);obtain⟨w1,rfl⟩:∃ x,x=w:=⟨_,rfl⟩;have dx:=H.sm;obtain⟨X2,N1,g3,e1,H,cb,dy⟩:=(H.s [3,0,1,2] rfl rfl).fza;have h1:=g3.rd;refine oI underlying55 sizeOf32 F rfl rfl rfl h1 y1 fun a p1 h2 F=>gX isAgg32 F rfl rfl H.sm h2 fun a dz h3 F=>xA 1 F rfl fun a F=>xG ?_;obtain⟨z5,c5,d⟩:=xB d;obtain⟨z6,c6,d⟩:=xB d;refine xD H (by kernel_rfl) fun w H=>dp (fun G=>∀ (b1:Value) (a:Act) (w:World),Sk a 94 [(0,qC i),(1,j),(37,j),(38,xC (f.2.2.2.2.length:Int)),(39,xC (U:Int)),(43,qC i),(47,P),(51,b1)]→Sep X2 N1 w1 w [rl 1 xI 2 b1 ([z5]),bx i [xC n,C,xC p,D,xC t,xC f.2.1,M,P,xC f.2.2.2.1] 66,rl 1 xI 2 P a3,rl 4 oP 77 M f.2.2.1]→∀ ls,ls = #[true,true,true,true,true,true,true,true,true,false,false,false,false]→G 4 ls a w) ?_ (fun H1=>?_)
       ·
        intro b1 a w F H ls cc;subst cc;refine xE H 9 rfl (by kernel_rfl) (oPL (sz:=1) (R:=xI) (z:=(xC 0)) (bytes:=8) underlying32 (by kernel_rfl) rfl rfl F rfl rfl rfl (H.s [2,0,1,3] rfl rfl) c6 fun a w cd H F=>xG ⟨⟨_,H⟩,?_⟩);refine oV 10 rfl (by kernel_rfl) (xN F rfl (fun w l=>oY F rfl) fun a F=>oV 11 rfl (by kernel_rfl) (xN F rfl (fun w l=>xU xAx F rfl rfl) fun a F=>xE H 12 rfl (by kernel_rfl) (oW sizeOf32 F rfl rfl rfl (H.s [1,0,2] rfl rfl) ((H.s [1,0,2] rfl rfl).l 1 rfl).one rfl rfl fun w H=>xG ⟨⟨_,H⟩,?_⟩)));refine vP (by kernel_rfl) (vK (xH (oM (zG F rfl rfl rfl m1 fun a F=>xA 1 F rfl fun a F=>xG ?_))));replace d:=zM d ca;exact⟨_,Nat.lt_succ_self _,U+1,V,z6,cd,⟨I.1,I.2.2⟩,rfl,d,F.su,((cb.1 H (Ns.all ⟨n0,⟨n0,⟨n0,trivial⟩⟩⟩)).s [1,2,3,0] rfl rfl)⟩
       refine qP 0 rfl (by kernel_rfl) (xN F rfl (fun w l=>xL F rfl) fun a F=>qP 1 rfl (by kernel_rfl) (xN F rfl (fun w l=>xL F rfl) fun a F=>oV 2 rfl (by kernel_rfl) (xN F rfl (fun w l=>oY F rfl) fun a F=>oV 3 rfl (by kernel_rfl) (xN F rfl (fun w l=>xU xAx F rfl rfl) fun a F=>qP 5 rfl (by kernel_rfl) (xN F rfl (fun w l=>xL F rfl) fun a F=>oV 6 rfl (by kernel_rfl) ?_)))));refine vI underlying32 sizeOf2 F rfl rfl rfl h3 c5 fun a p2 h4 F=>oV 7 rfl (by kernel_rfl) (vlI isAgg2 F rfl rfl H.v h4 fun a i6 F=>kH [4,8] (by kernel_rfl) (by simp) ⟨⟨_,rfl,?_⟩,⟨_,rfl,?_⟩,trivial⟩)
       ·
        refine kC H (oB isAgg32 F rfl rfl (H.b 0 rfl) rfl fun a F=>xG ⟨⟨_,H⟩,?_⟩);refine xE H 8 rfl (by kernel_rfl) (dF (R:=xI) (y:=z5) underlying32 sizeOf2 zeroValue2 rfl rfl F rfl rfl H (Eo.int i6) fun a w ce H F=>xG ⟨⟨_,H⟩,?_⟩);exact H1 ce _ _ (F.su) H _ (by kernel_rfl)
       refine kC H (dF (R:=xI) (y:=z5) underlying32 sizeOf2 zeroValue2 rfl rfl F rfl rfl H (Eo.int i6) fun a w cf H F=>xG ⟨⟨_,H⟩,?_⟩);refine xE H 4 rfl (by kernel_rfl) (oB isAgg32 F rfl rfl (H.b 1 rfl) rfl fun a F=>xG ⟨⟨_,H⟩,?_⟩);exact H1 cf _ _ (F.su) H _ (by kernel_rfl)
     rintro a w ⟨b0,ac,rfl,F,H⟩
     have d:=xY hk2;refine xH (xV (xA 1 F rfl fun a F=>xG (xP (oJ (vO (oJ ?_))))));replace d:=kK d a2;refine vO (oJ ?_);replace d:=kI d ab;refine oJ (xR F rfl (xX F rfl) ?_);obtain rfl:=oj d;exact⟨_,rfl,M,ac,rfl,(H.s [0,2,1,3] rfl rfl),i3,i4⟩
    replace d:=vX az d;refine xS (xH (xV (xA 2 F rfl fun a F=>?_)));obtain⟨z7,c7,d⟩:=xB d;refine oI underlying55 sizeOf32 F rfl rfl rfl (H.r 3 rfl) c7 fun a p3 h5 F=>gX isAgg32 F rfl rfl (Sm.refl _ _) h5 (fun a e0 h6 F=>?_);obtain⟨z8,c8,d⟩:=xB d;refine oI underlying32 sizeOf2 F rfl rfl rfl h6 c8 fun a p4 h7 F=>olI isAgg2 F rfl rfl (Sm.refl _ _) h7 fun a i7 F=>xA 1 F rfl fun a F=>vE (xA 2 F rfl fun a F=>qJ F rfl rfl fun a F=>oD nV F rfl rfl rfl (fun a F=>?_));refine oB isAgg35 F rfl rfl (H.b 0 rfl) rfl fun a F=>xA 2 F rfl fun a F=>kY underlying77 zeroValue77 (fun w=>by simp [sizeOf2];rfl) F rfl rfl rfl rfl rfl (oc rfl (oc rfl (oc rfl on))) rfl rfl fun a F=>dF (R:=oP) (y:=(Line.mk 1 z4 z8 0)) underlying35 sizeOf77 zeroValue77 rfl rfl F rfl rfl H (Eo.agg (oP.m (show xO (1) by decide) iz2 i7 (show xO 0 by decide))) (fun a w v18 H F=>?_);obtain⟨z9,c9,d⟩:=xB d;refine oPL (sz:=4) (R:=oP) (z:=(.agg #[xC 0,xC 0,xC 0,xC 0])) (bytes:=32) underlying35 (by kernel_rfl) rfl rfl F rfl rfl rfl (H.s [2,0,1,3,4] rfl rfl) c9 fun a w bf H F=>qJ F rfl rfl fun a F=>oD nV F rfl rfl rfl fun a F=>oW sizeOf35 F rfl rfl rfl (H.s [1,0,2,3] rfl rfl) ((H.s [1,0,2,3] rfl rfl).l 1 rfl).one rfl rfl fun w H=>vE (xA 1 F rfl fun a F=>?_);obtain⟨bg,cg,d⟩:=xB d;refine oG F rfl call84 rfl (mR bg cg _ aA (H.r 3 rfl)) (fun a T w ⟨bh,e2,S⟩ F=>?_);subst T;have H:=H.r1 S n0;refine xA 1 F rfl fun a F=>vE (xA 3 F rfl fun a F=>dF (R:=xI) (y:=z8) underlying32 sizeOf2 zeroValue2 rfl rfl F rfl rfl H (Eo.int i7) (fun a w e3 H F=>?_));obtain⟨e4,bi,d⟩:=xB d;refine oRl underlying55 sizeOf32 F rfl rfl rfl H 1 rfl bi (fun a p5 h8 ch F=>?_);have H:=(H.s [1,0,2,3,4,5] rfl rfl).lw;refine oSc sizeOf32 F rfl rfl rfl H ch (fQ bi) n0 (fun e q=>(Eo.sl q.ld)) (H.l 1 rfl).one rfl fun w H=>xG (xF (xV (xA 2 F rfl fun a F=>?_)));obtain⟨J,ci,d⟩:=xB d;obtain⟨X3,K2,cj⟩:=Sep.lend (K:=[bx i [xC n,C,xC p,D,xC t,xC f.2.1,bf,E,xC f.2.2.2.1] 66,rl 4 oP 77 bf z9,rl 1 xI 2 E Q,rw N0 1 (qK 1 xI) 32 bh (bg.set (z4).toNat ([z8]))]) (L:=[rw N0 1 (qK 1 xI) 32 j f.2.2.2.2]) (H.s [1,2,3,0,4] rfl rfl);refine oG F rfl call48 rfl (ih J ci _ H.hN K2 aq (H.u ar) au (H.u av) aw i3 i4) (fun a T w ⟨ad,ae,e5,S,i8,i9⟩ F=>?_);subst T;have H:Sep O B A w [bx i [xC n,C,xC p,D,xC t,xC J.2.1,ad,ae,xC J.2.2.2.2.1] 66,rl 4 oP 77 ad J.2.2.1,rl 1 xI 2 ae J.2.2.2.1,rw N0 1 (qK 1 xI) 32 bh J.2.2.2.2.2,rw N0 1 (qK 1 xI) 32 j f.2.2.2.2]:=cj S;refine xA 1 F rfl fun a F=>xG (qS F rfl (fun b2=>?_) (fun b2=>?_))
    ·
     replace d:=vY b2 d;refine xV (xA 1 F rfl fun a F=>xG (xP (oJ (vO (oJ ?_)))));replace d:=kK d a2;refine vO (oJ ?_);replace d:=kI d ab;refine oJ (xR F rfl (xX F rfl) ?_);obtain rfl:=oj d;exact⟨_,rfl,ad,ae,rfl,(H.s [0,1,2,4] rfl rfl),i8,i9⟩
    replace d:=vX b2 d;refine xS (xH (oM (xA 4 F rfl fun a F=>oI underlying55 sizeOf32 F rfl rfl rfl (H.r 4 rfl) c7 fun a p6 h9 F=>gX isAgg32 F rfl rfl (Sm.refl _ _) h9 fun a e6 cl F=>xA 1 F rfl fun a F=>?_)));obtain⟨bj,cm,d⟩:=xB d;refine oG F rfl call85 rfl (gV bj cm _ aA cl i7) (fun a T w ⟨e7,e8,S⟩ F=>?_);subst T;have H:=H.r1 S n0;refine oRi underlying55 sizeOf32 F rfl rfl rfl H 5 rfl c7 fun a p7 e9 cn F=>oSc sizeOf32 F rfl rfl rfl (H.s [5,0,1,2,3,4] rfl rfl) cn (fQ c7) n0 (fun e q=>(Eo.sl q.ld)) ((H.s [5,0,1,2,3,4] rfl rfl).l 1 rfl).one rfl fun w H=>zE (vK (xH ?_));replace d:=zM d a2;exact⟨t1,(by omega),(f.2.2.2.2.set (z4).toNat bj),J.2.1,J.2.2.1,ad,J.2.2.2.1,ae,J.2.2.2.2.1,d,F.su,(H.s [1,2,3,0] rfl rfl),i8,i9⟩
   replace d:=vX ax d;refine qV (qX (qX ?_));replace d:=jO d a2;refine kF (xH ?_);exact⟨f.2.2.2.2,f.2.1,f.2.2.1,M,Q,E,f.2.2.2.1,(zL d),F.su,H,i3,i4⟩
  rintro a w ⟨s1,s2,s3,v2,s4,v3,s5,rfl,F,H,co,cp⟩
  have d:=xY ab;refine xH (xV (xA 1 F rfl fun a F=>xG (xP (xR F rfl (xX F rfl) ?_))));obtain rfl:=oj d;exact⟨_,rfl,v2,v3,rfl,H,co,cp⟩
theorem nE {B:Nat→Prop} {N:Nat} {e:Int} {y:List Rel} {f:Int} {A:List Con} {h i:Int} {C:List Line} {D:List Int} {j:Int} {I:List (List Int)} (r:Bool×Int×(List Line)×(List Int)×Int×(List (List Int))) (S:vM N e y f A h i C D j I=some r) {t:Nat} {n:Value} {p:Value} {E:Value} {F:Value} {x:Value} {J:List Nat} (d:World) (T:∀ c,B c→c<d.heap.size) (U:Sep J B d d [bx t [xC e,n,xC f,p,xC h,xC i,E,F,xC j] 66,rl 4 oP 77 E C,rl 1 xI 2 F D,rw N0 1 (qK 1 xI) 32 x I]) (K:xO e) (L:Bo B d (Sl 2 qG) n y) (M:xO f) (O:Bo B d (Sl 2 qH) p A) (P:xO h) (Q:xO i) (R:xO j):Calls Tryz.prog 48 #[qC t,x] d (Gv (fun v w'=>∃ (G H:Value),v= .bool r.1∧Sep J B d w' [bx t [xC e,n,xC f,p,xC h,xC r.2.1,G,H,xC r.2.2.2.2.1] 66,rl 4 oP 77 G r.2.2.1,rl 1 xI 2 H r.2.2.2.1,rw N0 1 (qK 1 xI) 32 x r.2.2.2.2.2]∧xO r.2.1∧xO r.2.2.2.2.1)):=
  mL N r S d T U K L M O P Q R
def aK (N:Nat) (d:Template) (e:Instance) (h:List (List Int)) (f:Int):Option ((Int×(List Rel)×Int×(List Con)×Int×Int×(List Line)×(List Int)×Int)×(List (List Int))):=
 xZ (vM N d.size d.rels e.vars e.cons f 0 ([]) ([]) 0 h) fun c=>
 if c.1 then
  some ((d.size,d.rels,e.vars,e.cons,f,c.2.1,c.2.2.1,c.2.2.2.1,6),c.2.2.2.2.2)
 else
  some ((d.size,d.rels,e.vars,e.cons,f,c.2.1,c.2.2.1,c.2.2.2.1,c.2.2.2.2.1),c.2.2.2.2.2)
theorem mW {B:Nat→Prop} {N:Nat} {h:Template} {i:Instance} {E:List (List Int)} {j:Int} (r:(Int×(List Rel)×Int×(List Con)×Int×Int×(List Line)×(List Int)×Int)×(List (List Int))) (e:aK N h i E j=some r) {G:Value} {I:Value} {p:Value} {J:List Nat} (d:World) (hN:∀ c,B c→c<d.heap.size) (S0:Sep J B d d [rw N0 1 (qK 1 xI) 32 p E]) (A0:Bo B d (kJ 2 xJ) G h) (A1:Bo B d (kJ 2 xK) I i) (C:xO j):Calls Tryz.prog 22 #[G,I,p,xC j] d (Gv (fun v w'=>∃ (R:Nat) (T U V W:Value),v=qC R∧Sep J B d w' [bx R [xC r.1.1,T,xC r.1.2.2.1,U,xC r.1.2.2.2.2.1,xC r.1.2.2.2.2.2.1,V,W,xC r.1.2.2.2.2.2.2.2.2] 66,rl 4 oP 77 V r.1.2.2.2.2.2.2.1,rl 1 xI 2 W r.1.2.2.2.2.2.2.2.1,rw N0 1 (qK 1 xI) 32 p r.2]∧xO r.1.1∧Bo B d (Sl 2 qG) T r.1.2.1∧xO r.1.2.2.1∧Bo B d (Sl 2 qH) U r.1.2.2.2.1∧xO r.1.2.2.2.2.1∧xO r.1.2.2.2.2.2.1∧xO r.1.2.2.2.2.2.2.2.2)):=by
 unfold aK at e
 refine xW (L:=[(0,G),(1,I),(2,p),(3,xC j)]) func22 rfl rfl rfl (sc rfl (sc rfl (sc rfl (sc rfl sn)))) (fun a F=>?_);have H:=S0;refine xV ?_;obtain⟨n,rfl,M,O⟩:=xJ.o A0;refine oX F rfl rfl rfl H (fun a w X H F=>?_);obtain⟨f,rfl,P,Q⟩:=xK.o A1;refine oX F rfl rfl rfl H fun a w Y H F=>xA 1 F rfl fun a F=>vE (fJ isAgg26 sizeOf26 F rfl rfl (H.b 1 rfl) rfl rfl fun a F=>fJ isAgg29 sizeOf29 F rfl rfl (H.b 0 rfl) rfl rfl fun a F=>xA 1 F rfl fun a F=>xDg (cs:=#[xC h.size,n,xC i.vars,f,xC j,xC 0,qQ,qQ,xC 0]) (qs:=[(0,[xC h.size,n]),(2,[xC i.vars,f]),(4,[xC j])]) underlying66 zeroValue66 (fun w=>by simp [sizeOf2,sizeOf26,sizeOf29,sizeOf32,sizeOf35];rfl) F rfl rfl rfl rfl rfl ⟨rfl,rfl,Nat.le_of_ble_eq_true rfl,⟨rfl,rfl,Nat.le_of_ble_eq_true rfl,⟨rfl,rfl,Nat.le_of_ble_eq_true rfl,trivial⟩⟩⟩ rfl fun a F=>oX F rfl rfl rfl H (fun a w x H F=>?_));refine xA 1 F rfl fun a F=>xG (xF (xV (xA 2 F rfl fun a F=>?_)));have H:=H.nl 4 oP 77;have H:=H.nl 1 xI 2;obtain⟨t,c1,e⟩:=xB e;obtain⟨X1,K1,a0⟩:=Sep.lend (K:=[bx x [xC h.size,n,xC i.vars,f,xC j,xC 0,qQ,qQ,xC 0] 66,rl 4 oP 77 qQ ([]),rl 1 xI 2 qQ ([]),rw N0 1 (qK 1 xI) 32 p E]) (L:=[bx Y [xC i.vars,f] 29,bx X [xC h.size,n] 26]) (H.s [2,1,0,5,3,4] rfl rfl);refine oG F rfl call48 rfl (nE t c1 _ H.hN K1 M (H.u O) P (H.u Q) C (show xO 0 by decide) (show xO 0 by decide)) (fun a vv w ⟨y,A,a7,S,Z,a1⟩ F=>?_);subst vv;have H:Sep J B d w [bx x [xC h.size,n,xC i.vars,f,xC j,xC t.2.1,y,A,xC t.2.2.2.2.1] 66,rl 4 oP 77 y t.2.2.1,rl 1 xI 2 A t.2.2.2.1,rw N0 1 (qK 1 xI) 32 p t.2.2.2.2.2,bx Y [xC i.vars,f] 29,bx X [xC h.size,n] 26]:=a0 S;refine xG (qS F rfl (fun D=>?_) (fun D=>?_))
 ·
  replace e:=vY D e;refine oM (xA 1 F rfl fun a F=>qJ F rfl rfl fun a F=>oD sI F rfl rfl rfl fun a F=>oW sizeOf2 F rfl rfl rfl H rfl rfl rfl fun w H=>vE (xA 2 F rfl fun a F=>?_));refine xG (xP (xR F rfl (xX F rfl) ?_));obtain rfl:=oj e;exact⟨_,rfl,x,n,f,y,A,rfl,(H.s [0,1,2,3] rfl rfl),M,O,P,Q,C,Z,(show xO (6) by decide)⟩
 replace e:=vX D e;refine xS (xH (xV (xA 2 F rfl fun a F=>xG (xP (xR F rfl (xX F rfl) ?_)))));obtain rfl:=oj e;exact⟨_,rfl,x,n,f,y,A,rfl,(H.s [0,1,2,3] rfl rfl),M,O,P,Q,C,Z,a1⟩
end Go.Proofs.YtghihmkhdhjhiaaGreatDoor
