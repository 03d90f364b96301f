import Derived.Test.YtgnfibiaaipibaaGreatSO
import Derived.Test.YtgnfibiaaipibaaGreatNH
namespace Go.Proofs.YtgnfibiaaipibaaGreat
open Go.Proofs.Tryz
set_option maxHeartbeats 1000000
set_option linter.unusedVariables false
set_option linter.unusedSimpArgs false
set_option maxRecDepth 100000
open Go.RowKit
def cM (c d e:Int):Option Bool:=
 vT (σ:=Bool) (
  if (decide (d≤c)) then  some (.nx (decide (c≤e))) else  some (.nx false)) fun f=>
 some f
theorem fM {B:Nat→Prop} {e h i:Int} (r:Bool) (d:cM e h i=some r)  (j:World) (t:∀ c,B c→c<j.heap.size) (y:xZ e) (z:xZ h) (A:xZ i):Calls Tryz.prog 74 #[xG e,xG h,xG i] j (zO (.bool r) j):=by
 unfold cM at d
 refine xV (L:=[(0,xG e),(1,xG h),(2,xG i)]) func74 rfl rfl rfl (sc rfl (sc rfl (sc rfl sn))) (fun a F=>?_);have H:=Sep.start t;refine xP (xA 1 F rfl fun a F=>xJ (xC ?_));obtain⟨x,d,p⟩:=xK d;refine xX (fun a w=>∃ (n:Bool),x= .nx n∧Sk a 15 [(6,.bool n)]∧Sep [] B j w []) ?_ ?_
 ·
  refine xU (xA 4 F rfl fun a F=>?_)
  rcases qU (decide (h≤e)) with f | f
  ·
   replace d:=vR f d;have F:=F.eb 10 rfl f;refine xA 5 F rfl fun a F=>xJ ?_;exact⟨(decide (e≤i)),(vE d),F.su,H⟩
  replace d:=vQ f d;have F:=F.eb 10 rfl f;refine xA 5 F rfl fun a F=>xJ ?_;exact⟨false,(vE d),F.su,H⟩
 rintro a w ⟨n,rfl,F,H⟩
 have d:=xN p;refine xF (xT (xS F rfl (oD F rfl) ?_));obtain rfl:=oj d;exact⟨rfl,H.bl⟩
def iL (c:Int):Option Bool:=
 xY (cM c 1 4) fun d=>
 some d
theorem impl_isSize_c {B:Nat→Prop} {d:Int} (r:Bool) (e:iL d=some r)  (f:World) (i:∀ c,B c→c<f.heap.size) (h:xZ d):Calls Tryz.prog 116 #[xG d] f (zO (.bool r) f):=by
 unfold iL at e
 refine xV (L:=[(0,xG d)]) func116 rfl rfl rfl (sc rfl sn) (fun a F=>?_);have H:=Sep.start i;refine xP (xA 1 F rfl fun a F=>qO (xA 1 F rfl fun a F=>?_));obtain⟨j,n,e⟩:=xB e;refine oK F rfl call74 rfl H (fM j n _ aA h (show xZ (1) by decide) (show xZ (4) by decide)) fun a w H F=>xA 1 F rfl fun a F=>xJ (xT (xS F rfl (oD F rfl) ?_));obtain rfl:=oj e;exact⟨rfl,H.bl⟩
def iZ (c:Int):Option Bool:=
 xY (cM c 1 4) fun d=>
 some d
theorem impl_isArity_c {B:Nat→Prop} {d:Int} (r:Bool) (e:iZ d=some r)  (f:World) (i:∀ c,B c→c<f.heap.size) (h:xZ d):Calls Tryz.prog 117 #[xG d] f (zO (.bool r) f):=by
 unfold iZ at e
 refine xV (L:=[(0,xG d)]) func117 rfl rfl rfl (sc rfl sn) (fun a F=>?_);have H:=Sep.start i;refine xP (xA 1 F rfl fun a F=>qO (xA 1 F rfl fun a F=>?_));obtain⟨j,n,e⟩:=xB e;refine oK F rfl call74 rfl H (fM j n _ aA h (show xZ (1) by decide) (show xZ (4) by decide)) fun a w H F=>xA 1 F rfl fun a F=>xJ (xT (xS F rfl (oD F rfl) ?_));obtain rfl:=oj e;exact⟨rfl,H.bl⟩
def eX (c d:Int):Option Bool:=
 xY (ck (c - 1)) fun e=>
 xY (cM d 0 e) fun f=>
 some f
theorem impl_isValue_c {B:Nat→Prop} {e f:Int} (r:Bool) (d:eX e f=some r)  (h:World) (n:∀ c,B c→c<h.heap.size) (x:xZ e) (j:xZ f):Calls Tryz.prog 126 #[xG e,xG f] h (zO (.bool r) h):=by
 unfold eX at d
 refine xV (L:=[(0,xG e),(1,xG f)]) func126 rfl rfl rfl (sc rfl (sc rfl sn)) (fun a F=>?_);have H:=Sep.start n;refine xP (xA 1 F rfl fun a F=>qO (xA 2 F rfl fun a F=>?_));obtain⟨y,i,d⟩:=xB d;refine iS F rfl rfl rfl i (fun a F=>?_);obtain⟨p,t,d⟩:=xB d;refine oK F rfl call74 rfl H (fM p t _ aA j (show xZ (0) by decide) (kG i)) fun a w H F=>xA 1 F rfl fun a F=>xJ (xT (xS F rfl (oD F rfl) ?_));obtain rfl:=oj d;exact⟨rfl,H.bl⟩
def eQ (c d:Int):Option Bool:=
 xY (eX d c) fun e=>
 some ((!e))
theorem impl_areValues_1_c {B:Nat→Prop} {d i:Int} (r:Bool) (e:eQ d i=some r) {h:Value} (f:World) (n:∀ c,B c→c<f.heap.size) (j:xZ d) (p:Bo B f (Pt 1 xH) h i):Calls Tryz.prog 125 #[xG d,h] f (zO (.bool r) f):=by
 unfold eQ at e
 refine xV (L:=[(0,xG d),(1,h)]) func125 rfl rfl rfl (sc rfl (sc rfl sn)) (fun a F=>?_);have H:=Sep.start n;refine xP (xA 1 F rfl fun a F=>qO (aN isAgg2 F rfl rfl H.sm p fun a t F=>xA 1 F rfl fun a F=>?_));obtain⟨x,y,e⟩:=xB e;refine oK F rfl call126 rfl H (impl_isValue_c x y _ aA t j) fun a w H F=>xA 2 F rfl fun a F=>xJ (xT (xS F rfl (oD F rfl) ?_));obtain rfl:=oj e;exact⟨rfl,H.bl⟩
def qW (c:List Int) (d:Int→Option Bool):Option Int:=
 vT (σ:=Unit) (
  qJ (σ:=Unit) (ρ:=Int) (fun (e:Nat) (f:Int) (s:Unit)=>
    match s with
    | _=>
    xY (d f) fun h=>
    if h then
     some (.ret ((e:Int)))
    else
     some (.go ())) c 0 ()) fun _=>
 some ((-1))
theorem aS {B:Nat→Prop} {h:List Int} {D:Int→Option Bool} (r:Int) (d:qW h D=some r) {t:Value} {j:FuncId} {p:List Value} (f:World) (Q:∀ c,B c→c<f.heap.size) (E:Bo B f (Sl 1 xH) t h) (J:∀ args w,(callFunc j args).run Tryz.prog w= .ok (.enter j args) w) (K:∀ (y:Int) (r:Bool),D y=some r→∀ W,Below f.heap.size f W→xZ y→Calls Tryz.prog j ([xG y]++p:List Value).toArray W (zO (.bool r) W)):Calls Tryz.prog 101 #[t,.func (.func j) #[] p.toArray] f (dW r f):=by
 unfold qW at d
 refine xV (L:=[(0,t),(1,.func (.func j) #[] p.toArray)]) func101 rfl rfl rfl (sc rfl (sc rfl sn)) (fun a F=>?_);have H:=Sep.start Q;refine xP (xA 1 F rfl fun a F=>xJ (xC (xP (xA 1 F rfl fun a F=>oL underlying25 F rfl rfl E fun a G F=>xA 1 F rfl fun a F=>?_))));refine xJ ?_;obtain⟨I,d,A⟩:=xK d;refine xX (fun a w=>I= .nx ()∧Sk a 19 []∧Sep [] B f w []) ?_ ?_
 ·
  refine xW ?_;obtain⟨M,N,d⟩:=qE d;refine oU (fun g a w=>∃ (n:Nat) (i:List Int),(n≤h.length∧h.drop n=i)∧i.length=g∧qJ M i n ()=some I∧Sk a 19 [(8,xG (n:Int)),(0,t),(1,.func (.func j) #[] p.toArray),(7,xG (h.length:Int))]∧Sep [] B f w []) h.length ?_ ?_
  ·
   exact⟨0,h,⟨Nat.zero_le _,rfl⟩,rfl,d,F.su,H⟩
  intro g2 a w ⟨n,i,e,O,d,F,H⟩
  cases i with
  | nil=>
   replace d:=qH d;have R:=qG e.1 e.2;have z:=vA R;refine xP (xA 1 F rfl fun a F=>xJ (xC (qT F rfl z (oM (oR (oR (vH ?_)))))));refine xF ?_;exact⟨(vE d),F.sub sn,H⟩
  | cons x2 i=>
   subst O;replace e:=oO e.2;have S:=oZ e.2.1;obtain⟨Z,d,C⟩:=oV d;rw[N] at d;have z:=qM e.1;refine xP (xA 1 F rfl fun a F=>xJ (xC (qV F rfl z (xL (xF (xC ?_))))));have T:=fE (Nat.le_of_lt e.1) G;have U:=zC e.1 G;refine xW (xP (xA 2 F rfl fun a F=>qO (xA 2 F rfl fun a F=>?_)));refine xA 1 F rfl fun a F=>oI underlying25 sizeOf2 F rfl rfl rfl E S fun a p1 V F=>aN isAgg2 F rfl rfl H.sm V (fun a P F=>?_);obtain⟨X,Y,d⟩:=xB d;refine oKV F rfl rfl J rfl H (K _ X Y _ H.bl P) fun a w H F=>xJ (qP F rfl (fun x=>?_) (fun x=>?_))
   ·
    replace d:=vR x d;refine xP (xA 2 F rfl fun a F=>xJ (xT (vJ (oE (oE ?_)))));replace d:=zR d C;refine vJ (oE ?_);replace d:=zQ d A;refine oE (xS F rfl (oD F rfl) ?_);obtain rfl:=oj d;exact⟨⟨rfl,H.bl⟩,T⟩
   replace d:=vQ x d;refine xL (qS (xF (xU (qQ F rfl rfl rfl U fun a F=>xA 1 F rfl fun a F=>xJ ?_))));replace d:=qX d C;exact⟨_,Nat.lt_succ_self _,n+1,i,⟨e.1,e.2.2⟩,rfl,d,F.su,H⟩
 rintro a w ⟨rfl,F,H⟩
 have d:=xN A;refine xF (xP (xA 1 F rfl fun a F=>xJ (xT (xS F rfl (oD F rfl) ?_))));obtain rfl:=oj d;exact⟨⟨rfl,H.bl⟩,(show xZ (-1) by decide)⟩
def zS (c:List Int) (d:Int→Option Bool):Option Bool:=
 xY (qW c d) fun e=>
 some ((decide (0≤e)))
theorem gR {B:Nat→Prop} {p:List Int} {t:Int→Option Bool} (r:Bool) (i:zS p t=some r) {n:Value} {e:FuncId} {j:List Value} (d:World) (z:∀ c,B c→c<d.heap.size) (A:Bo B d (Sl 1 xH) n p) (x:∀ args w,(callFunc e args).run Tryz.prog w= .ok (.enter e args) w) (y:∀ (f:Int) (r:Bool),t f=some r→∀ W,Below d.heap.size d W→xZ f→Calls Tryz.prog e ([xG f]++j:List Value).toArray W (zO (.bool r) W)):Calls Tryz.prog 124 #[n,.func (.func e) #[] j.toArray] d (zO (.bool r) d):=by
 unfold zS at i
 refine xV (L:=[(0,n),(1,.func (.func e) #[] j.toArray)]) func124 rfl rfl rfl (sc rfl (sc rfl sn)) (fun a F=>?_);have H:=Sep.start z;refine xP (xA 1 F rfl fun a F=>qO (xA 2 F rfl fun a F=>?_));obtain⟨C,D,i⟩:=xB i;refine oKI F rfl call101 rfl H (aS C D _ aA (H.a A) x (fun f r h W E=>y f r h W (H.bl.trans (E.mono H.fr.size)))) fun a w H G F=>xA 2 F rfl fun a F=>xJ (xT (xS F rfl (oD F rfl) ?_));obtain rfl:=oj i;exact⟨rfl,H.bl⟩
def kW (d:Int) (c:List Int) (e:Int):Option Bool:=
 vT (σ:=Bool) (
  if ((c.length:Int)==e) then  xY (zS c (fun f=>eQ f d)) fun h=>
   some (.nx (!h)) else  some (.nx false)) fun i=>
 some i
theorem impl_areValues_c {B:Nat→Prop} {j:Int} {n:List Int} {f:Int} (r:Bool) (d:kW j n f=some r) {p:Value} (i:World) (D:∀ c,B c→c<i.heap.size) (z:xZ j) (x:Bo B i (Sl 1 xH) p n) (I:xZ f):Calls Tryz.prog 93 #[xG j,p,xG f] i (zO (.bool r) i):=by
 unfold kW at d
 refine xV (L:=[(0,xG j),(1,p),(2,xG f)]) func93 rfl rfl rfl (sc rfl (sc rfl (sc rfl sn))) (fun a F=>?_);have H:=Sep.start D;refine xP (oX F rfl rfl rfl H fun a w J H F=>xA 1 F rfl fun a F=>xJ (xC ?_));obtain⟨A,d,C⟩:=xK d;refine xX (fun a w=>∃ (t:Bool),A= .nx t∧Sk a 17 [(6,.bool t)]∧Sep [] B i w []) ?_ ?_
 ·
  refine xU (xA 1 F rfl fun a F=>oL underlying25 F rfl rfl x fun a K F=>xA 3 F rfl fun a F=>?_)
  rcases qU ((n.length:Int)==f) with e | e
  ·
   replace d:=vR e d;have F:=F.eb 11 rfl e;refine xA 1 F rfl fun a F=>iW F rfl rfl rfl (fun a F=>?_);obtain⟨y,E,d⟩:=xB d;refine oK F rfl call124 rfl H (gR y E _ aA (H.a x) call125 (fun M r h W G f0=>impl_areValues_1_c r h W aA f0 ((c1I (H.g 0 rfl).bk z).w G))) fun a w H F=>xA 3 F rfl fun a F=>xJ ?_;exact⟨(!y),(vE d),F.su,(H.s [] rfl rfl)⟩
  replace d:=vQ e d;have F:=F.eb 11 rfl e;refine xA 6 F rfl fun a F=>xJ ?_;exact⟨false,(vE d),F.su,(H.s [] rfl rfl)⟩
 rintro a w ⟨t,rfl,F,H⟩
 have d:=xN C;refine xF (xT (xS F rfl (oD F rfl) ?_));obtain rfl:=oj d;exact⟨rfl,H.bl⟩
def bP (d:Int) (c:Rel):Option Bool:=
 vT (σ:=Bool) (
  xY (iL d) fun h=>
  if (!h) then  some (.nx true) else  xY (iZ c.arity) fun i=>
   some (.nx (!i))) fun j=>
 if j then
  some false
 else
  vT (σ:=Unit) (
   qJ (σ:=Unit) (ρ:=Bool) (fun (e:Nat) (f:(List Int)) (s:Unit)=>
     match s with
     | _=>
     vT (σ:=Bool) (
      xY (kW d f c.arity) fun n=>
      if (!n) then  some (.nx true) else  if (decide (0<(e:Int))) then  xY (ck ((e:Int) - 1)) fun p=>
        xY (ix c.tuples p) fun t=>
        xY (zI t f) fun x=>
        some (.nx (decide (0≤x))) else  some (.nx false)) fun y=>
     if y then
      some (.ret false)
     else
      some (.go ())) c.tuples 0 ()) fun _=>
  some true
theorem impl_ValidRel_c {B:Nat→Prop} {j:Int} {e:Rel} (r:Bool) (d:bP j e=some r) {D:Value} (h:World) (hN:∀ c,B c→c<h.heap.size) (K:xZ j) (A1:Bo B h (zX 2 qD) D e):Calls Tryz.prog 62 #[xG j,D] h (zO (.bool r) h):=by
 unfold bP at d
 refine xV (L:=[(0,xG j),(1,D)]) func62 rfl rfl rfl (sc rfl (sc rfl sn)) (fun a F=>?_);have H:=Sep.start hN;refine xP ?_;obtain⟨z,rfl,O,E⟩:=qD.o A1;refine oX F rfl rfl rfl H fun a w p H F=>xA 1 F rfl fun a F=>xJ (xC (xC ?_));obtain⟨o1,d,W⟩:=xK d;refine xX (fun a w=>∃ (G:Bool),o1= .nx G∧Sk a 46 [(0,xG j),(3,vK p),(15,.bool G)]∧Sep [] B h w [bx p [xG e.arity,z] 51]) ?_ ?_
 ·
  refine xU (xA 1 F rfl fun a F=>?_);obtain⟨P,c1,d⟩:=xB d;refine oK F rfl call116 rfl H (impl_isSize_c P c1 _ aA K) fun a w H F=>xA 2 F rfl fun a F=>?_
  rcases qU (!P) with t | t
  ·
   replace d:=vR t d;have F:=F.eb 10 rfl t;refine xA 5 F rfl fun a F=>xJ ?_;exact⟨true,(vE d),F.su,H⟩
  replace d:=vQ t d;have F:=F.eb 10 rfl t;refine oH cB F rfl rfl rfl fun a F=>oB isAgg2 F rfl rfl (H.b 0 rfl) rfl (fun a F=>?_);obtain⟨Q,c2,d⟩:=xB d;refine oK F rfl call117 rfl H (impl_isArity_c Q c2 _ aA O) fun a w H F=>xA 2 F rfl fun a F=>xJ ?_;exact⟨(!Q),(vE d),F.su,H⟩
 rintro a w ⟨G,rfl,F,H⟩
 have d:=xN W;refine xF (qP F rfl (fun A=>?_) (fun A=>?_))
 ·
  replace d:=vR A d;refine xP (xA 1 F rfl fun a F=>xJ (xT (oE (xS F rfl (oD F rfl) ?_))));obtain rfl:=oj d;exact⟨rfl,H.bl⟩
 replace d:=vQ A d;refine xL (xF (xC (xP (oH vW F rfl rfl rfl fun a F=>oB isAgg45 F rfl rfl (H.b 0 rfl) rfl fun a F=>oL underlying45 F rfl rfl E fun a R F=>xA 1 F rfl fun a F=>xJ ?_))));obtain⟨S,d,M⟩:=xK d;refine xX (fun a w=>S= .nx ()∧Sk a 46 []∧Sep [] B h w []) ?_ ?_
 ·
  refine xW ?_;obtain⟨X,Y,d⟩:=qE d;refine oU (fun g a w=>∃ (i:Nat) (n:List (List Int)),(i≤e.tuples.length∧e.tuples.drop i=n)∧n.length=g∧qJ X n i ()=some S∧Sk a 46 [(19,xG (i:Int)),(0,xG j),(3,vK p),(17,z),(18,xG (e.tuples.length:Int))]∧Sep [] B h w [bx p [xG e.arity,z] 51]) e.tuples.length ?_ ?_
  ·
   exact⟨0,e.tuples,⟨Nat.zero_le _,rfl⟩,rfl,d,F.su,H⟩
  intro g1 a w ⟨i,n,f,Z,d,F,H⟩
  cases n with
  | nil=>
   replace d:=qH d;have q1:=qG f.1 f.2;have I:=vA q1;refine xP (xA 1 F rfl fun a F=>xJ (xC (qT F rfl I (oM (oR (oR (vH ?_)))))));refine xF ?_;exact⟨(vE d),F.sub sn,(H.s [] rfl rfl)⟩
  | cons x2 n=>
   subst Z;replace f:=oO f.2;have y1:=oZ f.2.1;obtain⟨ah,d,N⟩:=oV d;rw[Y] at d;have I:=qM f.1;refine xP (xA 1 F rfl fun a F=>xJ (xC (qV F rfl I (xL (xF (xC ?_))))));have j1:=fE (Nat.le_of_lt f.1) R;have m1:=zC f.1 R;refine xW (xP (xA 1 F rfl fun a F=>oI underlying45 sizeOf25 F rfl rfl rfl E y1 fun a p1 h2 F=>aY isAgg25 F rfl rfl H.sm h2 fun a v3 T F=>xA 2 F rfl fun a F=>xJ (xC ?_)));obtain⟨o3,d,a0⟩:=xK d;refine xX (fun a w=>∃ (J:Bool),o3= .nx J∧Sk a 46 [(0,xG j),(3,vK p),(17,z),(18,xG (e.tuples.length:Int)),(19,xG (i:Int)),(44,.bool J)]∧Sep [] B h w [bx p [xG e.arity,z] 51]) ?_ ?_
   ·
    refine xU (xA 2 F rfl fun a F=>oH cB F rfl rfl rfl fun a F=>oB isAgg2 F rfl rfl (H.b 0 rfl) rfl (fun a F=>?_));obtain⟨U,c3,d⟩:=xB d;refine oK F rfl call93 rfl H (impl_areValues_c U c3 _ aA K (H.a T) O) fun a w H F=>xA 2 F rfl fun a F=>?_
    rcases qU (!U) with x | x
    ·
     replace d:=vR x d;have F:=F.eb 30 rfl x;refine xA 11 F rfl fun a F=>?_;refine xA 3 F rfl fun a F=>xJ ?_;exact⟨true,(vE d),F.su,H⟩
    replace d:=vQ x d;have F:=F.eb 30 rfl x;refine xA 3 F rfl fun a F=>?_
    rcases qU (decide (0<(i:Int))) with y | y
    ·
     replace d:=vR y d;have F:=F.eb 33 rfl y;refine oH vW F rfl rfl rfl fun a F=>oB isAgg45 F rfl rfl (H.b 0 rfl) rfl fun a F=>xA 1 F rfl fun a F=>?_;obtain⟨z4,c4,d⟩:=xB d;refine iS F rfl rfl rfl c4 (fun a F=>?_);obtain⟨z5,c5,d⟩:=xB d;refine oI underlying45 sizeOf25 F rfl rfl rfl E c5 fun a p2 h4 F=>aY isAgg25 F rfl rfl H.sm h4 fun a v4 h5 F=>xA 1 F rfl fun a F=>?_;obtain⟨V,c6,d⟩:=xB d;refine oKI F rfl call118 rfl H (eK V c6 _ aA (H.a h5) (H.a T)) fun a w H ai F=>xA 3 F rfl fun a F=>xJ ?_;exact⟨(decide (0≤V)),(vE d),F.su,H⟩
    replace d:=vQ y d;have F:=F.eb 33 rfl y;refine xA 11 F rfl fun a F=>?_;refine xJ ?_;exact⟨false,(vE d),F.su,H⟩
   rintro a w ⟨J,rfl,F,H⟩
   have d:=xN a0;refine xF (qP F rfl (fun C=>?_) (fun C=>?_))
   ·
    replace d:=vR C d;refine xP (xA 1 F rfl fun a F=>xJ (xT (vJ (oE (oE ?_)))));replace d:=zR d N;refine vJ (oE ?_);replace d:=zQ d M;refine oE (xS F rfl (oD F rfl) ?_);obtain rfl:=oj d;exact⟨rfl,H.bl⟩
   replace d:=vQ C d;refine xL (qS (xF (xU (qQ F rfl rfl rfl m1 fun a F=>xA 1 F rfl fun a F=>xJ ?_))));replace d:=qX d N;exact⟨_,Nat.lt_succ_self _,i+1,n,⟨f.1,f.2.2⟩,rfl,d,F.su,H⟩
 rintro a w ⟨rfl,F,H⟩
 have d:=xN M;refine xF (xP (xA 1 F rfl fun a F=>xJ (xT (xS F rfl (oD F rfl) ?_))));obtain rfl:=oj d;exact⟨rfl,H.bl⟩
def dR (c:Rel) (d:Template):Option Bool:=
 xY (bP d.size (Rel.mk c.arity c.tuples)) fun e=>
 some ((!e))
theorem impl_ValidTemplate_1_c {B:Nat→Prop} {i:Rel} {j:Template} (r:Bool) (e:dR i j=some r) {f:Value} {h:Value} (d:World) (p:∀ c,B c→c<d.heap.size) (t:Bo B d (zX 2 qD) f i) (x:Bo B d (Pt 2 xI) h j):Calls Tryz.prog 122 #[f,h] d (zO (.bool r) d):=by
 unfold dR at e
 refine xV (L:=[(0,f),(1,h)]) func122 rfl rfl rfl (sc rfl (sc rfl sn)) (fun a F=>?_);have H:=Sep.start p;refine xP ?_;obtain⟨E,rfl,y,z⟩:=qD.o t;refine oX F rfl rfl rfl H fun a w G H F=>xA 1 F rfl fun a F=>qO (oF (s':=1) dA F rfl rfl x xI.f0 fun a I n F=>aN isAgg2 F rfl rfl H.sm n fun a A F=>fU isAgg51 sizeOf51 F rfl rfl (H.b 0 rfl) rfl rfl (fun a F=>?_));obtain⟨C,D,e⟩:=xB e;refine oK F rfl call62 rfl H (impl_ValidRel_c C D _ aA A (qD.m y (H.a z))) fun a w H F=>xA 2 F rfl fun a F=>xJ (xT (xS F rfl (oD F rfl) ?_));obtain rfl:=oj e;exact⟨rfl,H.bl⟩
def kY (c:List Rel) (d:Rel→Option Bool):Option Int:=
 vT (σ:=Unit) (
  qJ (σ:=Unit) (ρ:=Int) (fun (e:Nat) (f:Rel) (s:Unit)=>
    match s with
    | _=>
    xY (d f) fun h=>
    if h then
     some (.ret ((e:Int)))
    else
     some (.go ())) c 0 ()) fun _=>
 some ((-1))
theorem fI {B:Nat→Prop} {h:List Rel} {C:Rel→Option Bool} (r:Int) (d:kY h C=some r) {t:Value} {j:FuncId} {p:List Value} (f:World) (R:∀ c,B c→c<f.heap.size) (D:Bo B f (Sl 2 qD) t h) (K:∀ args w,(callFunc j args).run Tryz.prog w= .ok (.enter j args) w) (M:∀ (E:Rel) (r:Bool),C E=some r→∀ W,Below f.heap.size f W→∀ (G:Value),Bo (All W) W (zX 2 qD) G E→Calls Tryz.prog j ([G]++p:List Value).toArray W (zO (.bool r) W)):Calls Tryz.prog 76 #[t,.func (.func j) #[] p.toArray] f (dW r f):=by
 unfold kY at d
 refine xV (L:=[(0,t),(1,.func (.func j) #[] p.toArray)]) func76 rfl rfl rfl (sc rfl (sc rfl sn)) (fun a F=>?_);have H:=Sep.start R;refine xP (xA 1 F rfl fun a F=>xJ (xC (xP (xA 1 F rfl fun a F=>oL underlying29 F rfl rfl D fun a I F=>xA 1 F rfl fun a F=>?_))));refine xJ ?_;obtain⟨J,d,z⟩:=xK d;refine xX (fun a w=>J= .nx ()∧Sk a 19 []∧Sep [] B f w []) ?_ ?_
 ·
  refine xW ?_;obtain⟨N,O,d⟩:=qE d;refine oU (fun g a w=>∃ (n:Nat) (i:List Rel),(n≤h.length∧h.drop n=i)∧i.length=g∧qJ N i n ()=some J∧Sk a 19 [(8,xG (n:Int)),(0,t),(1,.func (.func j) #[] p.toArray),(7,xG (h.length:Int))]∧Sep [] B f w []) h.length ?_ ?_
  ·
   exact⟨0,h,⟨Nat.zero_le _,rfl⟩,rfl,d,F.su,H⟩
  intro g2 a w ⟨n,i,e,P,d,F,H⟩
  cases i with
  | nil=>
   replace d:=qH d;have S:=qG e.1 e.2;have y:=vA S;refine xP (xA 1 F rfl fun a F=>xJ (xC (qT F rfl y (oM (oR (oR (vH ?_)))))));refine xF ?_;exact⟨(vE d),F.sub sn,H⟩
  | cons x2 i=>
   subst P;replace e:=oO e.2;have T:=oZ e.2.1;obtain⟨a0,d,A⟩:=oV d;rw[O] at d;have y:=qM e.1;refine xP (xA 1 F rfl fun a F=>xJ (xC (qV F rfl y (xL (xF (xC ?_))))));have U:=fE (Nat.le_of_lt e.1) I;have V:=zC e.1 I;refine xW (xP (xA 2 F rfl fun a F=>qO (xA 2 F rfl fun a F=>?_)));refine xA 1 F rfl fun a F=>oI underlying29 sizeOf51 F rfl rfl rfl D T fun a p1 Q F=>olA isAgg51 sizeOf51 F rfl rfl H.sm Q (fun a v1 X F=>?_);obtain⟨Y,Z,d⟩:=xB d;refine oKV F rfl rfl K rfl H (M _ Y Z _ H.bl _ (H.a X)) fun a w H F=>xJ (qP F rfl (fun x=>?_) (fun x=>?_))
   ·
    replace d:=vR x d;refine xP (xA 2 F rfl fun a F=>xJ (xT (vJ (oE (oE ?_)))));replace d:=zR d A;refine vJ (oE ?_);replace d:=zQ d z;refine oE (xS F rfl (oD F rfl) ?_);obtain rfl:=oj d;exact⟨⟨rfl,H.bl⟩,U⟩
   replace d:=vQ x d;refine xL (qS (xF (xU (qQ F rfl rfl rfl V fun a F=>xA 1 F rfl fun a F=>xJ ?_))));replace d:=qX d A;exact⟨_,Nat.lt_succ_self _,n+1,i,⟨e.1,e.2.2⟩,rfl,d,F.su,H⟩
 rintro a w ⟨rfl,F,H⟩
 have d:=xN z;refine xF (xP (xA 1 F rfl fun a F=>xJ (xT (xS F rfl (oD F rfl) ?_))));obtain rfl:=oj d;exact⟨⟨rfl,H.bl⟩,(show xZ (-1) by decide)⟩
def zE (c:List Rel) (d:Rel→Option Bool):Option Bool:=
 xY (kY c d) fun e=>
 some ((decide (0≤e)))
theorem bE {B:Nat→Prop} {p:List Rel} {t:Rel→Option Bool} (r:Bool) (f:zE p t=some r) {n:Value} {e:FuncId} {j:List Value} (d:World) (A:∀ c,B c→c<d.heap.size) (C:Bo B d (Sl 2 qD) n p) (y:∀ args w,(callFunc e args).run Tryz.prog w= .ok (.enter e args) w) (z:∀ (i:Rel) (r:Bool),t i=some r→∀ W,Below d.heap.size d W→∀ (x:Value),Bo (All W) W (zX 2 qD) x i→Calls Tryz.prog e ([x]++j:List Value).toArray W (zO (.bool r) W)):Calls Tryz.prog 49 #[n,.func (.func e) #[] j.toArray] d (zO (.bool r) d):=by
 unfold zE at f
 refine xV (L:=[(0,n),(1,.func (.func e) #[] j.toArray)]) func49 rfl rfl rfl (sc rfl (sc rfl sn)) (fun a F=>?_);have H:=Sep.start A;refine xP (xA 1 F rfl fun a F=>qO (xA 2 F rfl fun a F=>?_));obtain⟨D,E,f⟩:=xB f;refine oKI F rfl call76 rfl H (fI D E _ aA (H.a C) y (fun i r h W G=>z i r h W (H.bl.trans (G.mono H.fr.size)))) fun a w H I F=>xA 2 F rfl fun a F=>xJ (xT (xS F rfl (oD F rfl) ?_));obtain rfl:=oj f;exact⟨rfl,H.bl⟩
def aL (c:Template):Option Bool:=
 vT (σ:=Bool) (
  xY (iL c.size) fun d=>
  if d then  if (decide ((c.rels.length:Int)≤6)) then  xY (zE c.rels (fun e=>dR e (Template.mk c.size c.rels))) fun f=>
    some (.nx (!f)) else  some (.nx false) else  some (.nx false)) fun h=>
 some h
theorem impl_ValidTemplate_c {B:Nat→Prop} {j:Template} (r:Bool) (d:aL j=some r) {n:Value} (i:World) (D:∀ c,B c→c<i.heap.size) (E:Bo B i (zX 2 xI) n j):Calls Tryz.prog 73 #[n] i (zO (.bool r) i):=by
 unfold aL at d
 refine xV (L:=[(0,n)]) func73 rfl rfl rfl (sc rfl sn) (fun a F=>?_);have H:=Sep.start D;refine xP ?_;obtain⟨K,rfl,x,p⟩:=xI.o E;refine oX F rfl rfl rfl H fun a w M H F=>xA 1 F rfl fun a F=>xJ (xC ?_);obtain⟨G,d,A⟩:=xK d;refine xX (fun a w=>∃ (t:Bool),G= .nx t∧Sk a 19 [(2,.bool t)]∧Sep [] B i w []) ?_ ?_
 ·
  refine xU (oH dA F rfl rfl rfl fun a F=>oB isAgg2 F rfl rfl (H.b 0 rfl) rfl (fun a F=>?_));obtain⟨y,I,d⟩:=xB d;refine oK F rfl call116 rfl H (impl_isSize_c y I _ aA x) fun a w H F=>xA 1 F rfl fun a F=>?_
  rcases qU y with e | e
  ·
   replace d:=vR e d;have F:=F.eb 6 rfl e;refine oH kR F rfl rfl rfl fun a F=>oB isAgg29 F rfl rfl (H.b 0 rfl) rfl fun a F=>oL underlying29 F rfl rfl p fun a N F=>xA 3 F rfl fun a F=>?_
   rcases qU (decide ((j.rels.length:Int)≤6)) with f | f
   ·
    replace d:=vR f d;have F:=F.eb 12 rfl f;refine oH kR F rfl rfl rfl fun a F=>oB isAgg29 F rfl rfl (H.b 0 rfl) rfl fun a F=>iW F rfl rfl rfl (fun a F=>?_);obtain⟨z,C,d⟩:=xB d;refine oK F rfl call49 rfl H (bE z C _ aA (H.a p) call122 (fun O r h W J P f0=>impl_ValidTemplate_1_c r h W aA f0 ((xI.b (H.g 0 rfl).bk x (H.a p)).w J))) fun a w H F=>xA 3 F rfl fun a F=>xJ ?_;exact⟨(!z),(vE d),F.su,(H.s [] rfl rfl)⟩
   replace d:=vQ f d;have F:=F.eb 12 rfl f;refine xA 7 F rfl fun a F=>xJ ?_;exact⟨false,(vE d),F.su,(H.s [] rfl rfl)⟩
  replace d:=vQ e d;have F:=F.eb 6 rfl e;refine xA 11 F rfl fun a F=>?_;refine xA 2 F rfl fun a F=>xJ ?_;exact⟨false,(vE d),F.su,(H.s [] rfl rfl)⟩
 rintro a w ⟨t,rfl,F,H⟩
 have d:=xN A;refine xF (xT (xS F rfl (oD F rfl) ?_));obtain rfl:=oj d;exact⟨rfl,H.bl⟩
def impl_isVars (c:Int):Option Bool:=
 xY (cM c 1 10) fun d=>
 some d
theorem impl_isVars_c {B:Nat→Prop} {d:Int} (r:Bool) (e:impl_isVars d=some r)  (f:World) (i:∀ c,B c→c<f.heap.size) (h:xZ d):Calls Tryz.prog 90 #[xG d] f (zO (.bool r) f):=by
 unfold impl_isVars at e
 refine xV (L:=[(0,xG d)]) func90 rfl rfl rfl (sc rfl sn) (fun a F=>?_);have H:=Sep.start i;refine xP (xA 1 F rfl fun a F=>qO (xA 1 F rfl fun a F=>?_));obtain⟨j,n,e⟩:=xB e;refine oK F rfl call74 rfl H (fM j n _ aA h (show xZ (1) by decide) (show xZ (10) by decide)) fun a w H F=>xA 1 F rfl fun a F=>xJ (xT (xS F rfl (oD F rfl) ?_));obtain rfl:=oj e;exact⟨rfl,H.bl⟩
def dQ (c:Con) (d:Template) (e:Instance):Option Bool:=
 vT (σ:=Bool) (
  xY (ck ((d.rels.length:Int) - 1)) fun f=>
  xY (cM c.rel 0 f) fun h=>
  if (!h) then  some (.nx true) else  xY (ix d.rels c.rel) fun i=>
   xY (kW e.vars c.scope i.arity) fun j=>
   some (.nx (!j))) fun n=>
 some n
theorem impl_ValidInstance_1_c {B:Nat→Prop} {t:Con} {x:Template} {y:Instance} (r:Bool) (d:dQ t x y=some r) {i:Value} {j:Value} {n:Value} (e:World) (G:∀ c,B c→c<e.heap.size) (I:Bo B e (zX 2 vU) i t) (z:Bo B e (Pt 2 xI) j x) (J:Bo B e (Pt 2 xO) n y):Calls Tryz.prog 92 #[i,j,n] e (zO (.bool r) e):=by
 unfold dQ at d
 refine xV (L:=[(0,i),(1,j),(2,n)]) func92 rfl rfl rfl (sc rfl (sc rfl (sc rfl sn))) (fun a F=>?_);have H:=Sep.start G;refine xP ?_;obtain⟨v3,rfl,K,M⟩:=vU.o I;refine oX F rfl rfl rfl H fun a w b1 H F=>xA 1 F rfl fun a F=>xJ (xC ?_);obtain⟨N,d,E⟩:=xK d;refine xX (fun a w=>∃ (p:Bool),N= .nx p∧Sk a 28 [(4,.bool p)]∧Sep [] B e w []) ?_ ?_
 ·
  refine xQ H (by kernel_rfl) (by kernel_rfl) (xR F rfl (fun w l=>vG fR F rfl rfl) fun a F=>qB isAgg2 F rfl rfl (H.qb 0 rfl) rfl fun a F=>qF (s':=1) kR F rfl rfl z xI.f1 fun a p1 O F=>qlS isAgg29 F rfl rfl H.q O fun a v4 P F=>qL underlying29 F rfl rfl P (fun a i2 F=>?_));obtain⟨z1,A,d⟩:=xB d;refine xR F rfl (fun w l=>r_sub F rfl rfl A) (fun a F=>?_);obtain⟨C,Q,d⟩:=xB d;refine dD F rfl call74 rfl (fun w w' h l=>l.through h) (fun w l=>fM C Q w aA K (show xZ (0) by decide) (kG A)) fun a F=>xR F rfl (fun w l=>fW F rfl) fun a F=>xR F rfl (fun w l=>xM F rfl) (fun a F=>?_)
  rcases qU (!C) with f | f
  ·
   replace d:=vR f d;have F:=F.eb 13 rfl f;refine qK F rfl rfl fun a F=>qK F rfl rfl fun a F=>qK F rfl rfl fun a F=>qK F rfl rfl fun a F=>qK F rfl rfl fun a F=>qK F rfl rfl fun a F=>qK F rfl rfl fun a F=>qK F rfl rfl fun a F=>qK F rfl rfl fun a F=>qK F rfl rfl fun a F=>qK F rfl rfl (fun a F=>?_);refine qK F rfl rfl fun a F=>qK F rfl rfl fun a F=>xR F rfl (fun w l=>aU F rfl rfl) fun a F=>xR F rfl (fun w l=>zM F rfl) fun a F=>kA fun w H=>xF ?_;exact⟨true,(vE d),F.su,(H.s [] rfl rfl)⟩
  replace d:=vQ f d;have F:=F.eb 13 rfl f;refine qF (s':=1) kD F rfl rfl J xO.f0 fun a p2 R F=>iB isAgg2 F rfl rfl H.q R fun a S F=>xR F rfl (fun w l=>vG zV F rfl rfl) fun a F=>qB isAgg25 F rfl rfl (H.qb 0 rfl) rfl fun a F=>qF (s':=1) kR F rfl rfl z xI.f1 fun a p3 T F=>qlS isAgg29 F rfl rfl H.q T fun a v5 U F=>xR F rfl (fun w l=>vG fR F rfl rfl) fun a F=>qB isAgg2 F rfl rfl (H.qb 0 rfl) rfl (fun a F=>?_);obtain⟨z3,V,d⟩:=xB d;refine qI underlying29 sizeOf51 F rfl rfl rfl U V fun a a0 W F=>qF (s':=1) cB F rfl rfl W qD.f0 fun a p4 X F=>iB isAgg2 F rfl rfl H.q X (fun a Y F=>?_);obtain⟨D,Z,d⟩:=xB d;refine dD F rfl call93 rfl (fun w w' h l=>l.through h) (fun w l=>impl_areValues_c D Z w aA S ((H.go l).a M) Y) fun a F=>xR F rfl (fun w l=>fW F rfl) fun a F=>xR F rfl (fun w l=>aF F rfl rfl) fun a F=>xR F rfl (fun w l=>zM F rfl) fun a F=>kA fun w H=>xF ?_;exact⟨(!D),(vE d),F.su,(H.s [] rfl rfl)⟩
 rintro a w ⟨p,rfl,F,H⟩
 have d:=xN E;refine xF (xT (xS F rfl (oD F rfl) ?_));obtain rfl:=oj d;exact⟨rfl,H.bl⟩
def kB (c:List Con) (d:Con→Option Bool):Option Int:=
 vT (σ:=Unit) (
  qJ (σ:=Unit) (ρ:=Int) (fun (e:Nat) (f:Con) (s:Unit)=>
    match s with
    | _=>
    xY (d f) fun h=>
    if h then
     some (.ret ((e:Int)))
    else
     some (.go ())) c 0 ()) fun _=>
 some ((-1))
theorem fH {B:Nat→Prop} {h:List Con} {C:Con→Option Bool} (r:Int) (d:kB h C=some r) {t:Value} {j:FuncId} {p:List Value} (f:World) (R:∀ c,B c→c<f.heap.size) (D:Bo B f (Sl 2 vU) t h) (K:∀ args w,(callFunc j args).run Tryz.prog w= .ok (.enter j args) w) (M:∀ (E:Con) (r:Bool),C E=some r→∀ W,Below f.heap.size f W→∀ (G:Value),Bo (All W) W (zX 2 vU) G E→Calls Tryz.prog j ([G]++p:List Value).toArray W (zO (.bool r) W)):Calls Tryz.prog 123 #[t,.func (.func j) #[] p.toArray] f (dW r f):=by
 unfold kB at d
 refine xV (L:=[(0,t),(1,.func (.func j) #[] p.toArray)]) func123 rfl rfl rfl (sc rfl (sc rfl sn)) (fun a F=>?_);have H:=Sep.start R;refine xP (xA 1 F rfl fun a F=>xJ (xC (xP (xA 1 F rfl fun a F=>oL underlying33 F rfl rfl D fun a I F=>xA 1 F rfl fun a F=>?_))));refine xJ ?_;obtain⟨J,d,z⟩:=xK d;refine xX (fun a w=>J= .nx ()∧Sk a 19 []∧Sep [] B f w []) ?_ ?_
 ·
  refine xW ?_;obtain⟨N,O,d⟩:=qE d;refine oU (fun g a w=>∃ (n:Nat) (i:List Con),(n≤h.length∧h.drop n=i)∧i.length=g∧qJ N i n ()=some J∧Sk a 19 [(8,xG (n:Int)),(0,t),(1,.func (.func j) #[] p.toArray),(7,xG (h.length:Int))]∧Sep [] B f w []) h.length ?_ ?_
  ·
   exact⟨0,h,⟨Nat.zero_le _,rfl⟩,rfl,d,F.su,H⟩
  intro g2 a w ⟨n,i,e,P,d,F,H⟩
  cases i with
  | nil=>
   replace d:=qH d;have S:=qG e.1 e.2;have y:=vA S;refine xP (xA 1 F rfl fun a F=>xJ (xC (qT F rfl y (oM (oR (oR (vH ?_)))))));refine xF ?_;exact⟨(vE d),F.sub sn,H⟩
  | cons x2 i=>
   subst P;replace e:=oO e.2;have T:=oZ e.2.1;obtain⟨a0,d,A⟩:=oV d;rw[O] at d;have y:=qM e.1;refine xP (xA 1 F rfl fun a F=>xJ (xC (qV F rfl y (xL (xF (xC ?_))))));have U:=fE (Nat.le_of_lt e.1) I;have V:=zC e.1 I;refine xW (xP (xA 2 F rfl fun a F=>qO (xA 2 F rfl fun a F=>?_)));refine xA 1 F rfl fun a F=>oI underlying33 sizeOf119 F rfl rfl rfl D T fun a p1 Q F=>olA isAgg119 sizeOf119 F rfl rfl H.sm Q (fun a v1 X F=>?_);obtain⟨Y,Z,d⟩:=xB d;refine oKV F rfl rfl K rfl H (M _ Y Z _ H.bl _ (H.a X)) fun a w H F=>xJ (qP F rfl (fun x=>?_) (fun x=>?_))
   ·
    replace d:=vR x d;refine xP (xA 2 F rfl fun a F=>xJ (xT (vJ (oE (oE ?_)))));replace d:=zR d A;refine vJ (oE ?_);replace d:=zQ d z;refine oE (xS F rfl (oD F rfl) ?_);obtain rfl:=oj d;exact⟨⟨rfl,H.bl⟩,U⟩
   replace d:=vQ x d;refine xL (qS (xF (xU (qQ F rfl rfl rfl V fun a F=>xA 1 F rfl fun a F=>xJ ?_))));replace d:=qX d A;exact⟨_,Nat.lt_succ_self _,n+1,i,⟨e.1,e.2.2⟩,rfl,d,F.su,H⟩
 rintro a w ⟨rfl,F,H⟩
 have d:=xN z;refine xF (xP (xA 1 F rfl fun a F=>xJ (xT (xS F rfl (oD F rfl) ?_))));obtain rfl:=oj d;exact⟨⟨rfl,H.bl⟩,(show xZ (-1) by decide)⟩
def zP (c:List Con) (d:Con→Option Bool):Option Bool:=
 xY (kB c d) fun e=>
 some ((decide (0≤e)))
theorem eE {B:Nat→Prop} {p:List Con} {t:Con→Option Bool} (r:Bool) (f:zP p t=some r) {n:Value} {e:FuncId} {j:List Value} (d:World) (A:∀ c,B c→c<d.heap.size) (C:Bo B d (Sl 2 vU) n p) (y:∀ args w,(callFunc e args).run Tryz.prog w= .ok (.enter e args) w) (z:∀ (i:Con) (r:Bool),t i=some r→∀ W,Below d.heap.size d W→∀ (x:Value),Bo (All W) W (zX 2 vU) x i→Calls Tryz.prog e ([x]++j:List Value).toArray W (zO (.bool r) W)):Calls Tryz.prog 91 #[n,.func (.func e) #[] j.toArray] d (zO (.bool r) d):=by
 unfold zP at f
 refine xV (L:=[(0,n),(1,.func (.func e) #[] j.toArray)]) func91 rfl rfl rfl (sc rfl (sc rfl sn)) (fun a F=>?_);have H:=Sep.start A;refine xP (xA 1 F rfl fun a F=>qO (xA 2 F rfl fun a F=>?_));obtain⟨D,E,f⟩:=xB f;refine oKI F rfl call123 rfl H (fH D E _ aA (H.a C) y (fun i r h W G=>z i r h W (H.bl.trans (G.mono H.fr.size)))) fun a w H I F=>xA 2 F rfl fun a F=>xJ (xT (xS F rfl (oD F rfl) ?_));obtain rfl:=oj f;exact⟨rfl,H.bl⟩
def kX (d:Template) (c:Instance):Option Bool:=
 vT (σ:=Bool) (
  xY (aL (Template.mk d.size d.rels)) fun f=>
  if f then  xY (impl_isVars c.vars) fun h=>
   if h then  if (decide ((c.cons.length:Int)≤24)) then  xY (zP c.cons (fun i=>dQ i (Template.mk d.size d.rels) (Instance.mk c.vars c.cons))) fun j=>
     some (.nx (!j)) else  some (.nx false) else  some (.nx false) else  some (.nx false)) fun e=>
 some e
theorem impl_ValidInstance_c {B:Nat→Prop} {z:Template} {p:Instance} (r:Bool) (d:kX z p=some r) {t:Value} {x:Value} (e:World) (M:∀ c,B c→c<e.heap.size) (N:Bo B e (zX 2 xI) t z) (O:Bo B e (zX 2 xO) x p):Calls Tryz.prog 48 #[t,x] e (zO (.bool r) e):=by
 unfold kX at d
 refine xV (L:=[(0,t),(1,x)]) func48 rfl rfl rfl (sc rfl (sc rfl sn)) (fun a F=>?_);have H:=Sep.start M;refine xP ?_;obtain⟨U,rfl,A,C⟩:=xI.o N;refine oX F rfl rfl rfl H (fun a w V H F=>?_);obtain⟨T,rfl,D,y⟩:=xO.o O;refine oX F rfl rfl rfl H fun a w X H F=>xA 1 F rfl fun a F=>xJ (xC ?_);obtain⟨P,d,K⟩:=xK d;refine xX (fun a w=>∃ (n:Bool),P= .nx n∧Sk a 25 [(4,.bool n)]∧Sep [] B e w []) ?_ ?_
 ·
  refine xU (fU isAgg31 sizeOf31 F rfl rfl (H.b 1 rfl) rfl rfl (fun a F=>?_));obtain⟨E,Q,d⟩:=xB d;refine oK F rfl call73 rfl H (impl_ValidTemplate_c E Q _ aA (xI.m A (H.a C))) fun a w H F=>xA 1 F rfl fun a F=>?_
  rcases qU E with f | f
  ·
   replace d:=vR f d;have F:=F.eb 7 rfl f;refine oH kD F rfl rfl rfl fun a F=>oB isAgg2 F rfl rfl (H.b 0 rfl) rfl (fun a F=>?_);obtain⟨G,R,d⟩:=xB d;refine oK F rfl call90 rfl H (impl_isVars_c G R _ aA D) fun a w H F=>xA 2 F rfl fun a F=>?_
   rcases qU G with i | i
   ·
    replace d:=vR i d;have F:=F.eb 12 rfl i;refine oH bU F rfl rfl rfl fun a F=>oB isAgg33 F rfl rfl (H.b 0 rfl) rfl fun a F=>oL underlying33 F rfl rfl y fun a Y F=>xA 3 F rfl fun a F=>?_
    rcases qU (decide ((p.cons.length:Int)≤24)) with j | j
    ·
     replace d:=vR j d;have F:=F.eb 18 rfl j;refine oH bU F rfl rfl rfl fun a F=>oB isAgg33 F rfl rfl (H.b 0 rfl) rfl fun a F=>iW F rfl rfl rfl (fun a F=>?_);obtain⟨I,S,d⟩:=xB d;refine oK F rfl call91 rfl H (eE I S _ aA (H.a y) call92 (fun Z r h W J u0 f0=>impl_ValidInstance_1_c r h W aA f0 ((xI.b (H.g 1 rfl).bk A (H.a C)).w J) ((xO.b (H.g 0 rfl).bk D (H.a y)).w J))) fun a w H F=>xA 3 F rfl fun a F=>xJ ?_;exact⟨(!I),(vE d),F.su,(H.s [] rfl rfl)⟩
    replace d:=vQ j d;have F:=F.eb 18 rfl j;refine xA 7 F rfl fun a F=>xJ ?_;exact⟨false,(vE d),F.su,(H.s [] rfl rfl)⟩
   replace d:=vQ i d;have F:=F.eb 12 rfl i;refine xA 11 F rfl fun a F=>?_;refine xA 2 F rfl fun a F=>xJ ?_;exact⟨false,(vE d),F.su,(H.s [] rfl rfl)⟩
  replace d:=vQ f d;have F:=F.eb 7 rfl f;refine xA 11 F rfl fun a F=>?_;refine xA 7 F rfl fun a F=>xJ ?_;exact⟨false,(vE d),F.su,(H.s [] rfl rfl)⟩
 rintro a w ⟨n,rfl,F,H⟩
 have d:=xN K;refine xF (xT (xS F rfl (oD F rfl) ?_));obtain rfl:=oj d;exact⟨rfl,H.bl⟩
def jD (c:Int):Option Bool:=
 xY (cM c 1 6) fun d=>
 some d
theorem impl_isClass_c {B:Nat→Prop} {d:Int} (r:Bool) (e:jD d=some r)  (f:World) (i:∀ c,B c→c<f.heap.size) (h:xZ d):Calls Tryz.prog 34 #[xG d] f (zO (.bool r) f):=by
 unfold jD at e
 refine xV (L:=[(0,xG d)]) func34 rfl rfl rfl (sc rfl sn) (fun a F=>?_);have H:=Sep.start i;refine xP (xA 1 F rfl fun a F=>qO (xA 1 F rfl fun a F=>?_));obtain⟨j,n,e⟩:=xB e;refine oK F rfl call74 rfl H (fM j n _ aA h (show xZ (1) by decide) (show xZ (6) by decide)) fun a w H F=>xA 1 F rfl fun a F=>xJ (xT (xS F rfl (oD F rfl) ?_));obtain rfl:=oj e;exact⟨rfl,H.bl⟩
def kZ (c:Template) (d:Int):Option Int:=
 xY (aL (Template.mk c.size c.rels)) fun e=>
 if (!e) then
  some 1
 else
  if (c.size != 2) then
   some 4
  else
   xY (jD d) fun f=>
   if (!f) then
    some 2
   else
    some 0
theorem fV {B:Nat→Prop} {p:Template} {e:Int} (r:Int) (d:kZ p e=some r) {n:Value} (f:World) (y:∀ c,B c→c<f.heap.size) (z:Bo B f (zX 2 xI) n p) (t:xZ e):Calls Tryz.prog 33 #[n,xG e] f (dW r f):=by
 unfold kZ at d
 refine xV (L:=[(0,n),(1,xG e)]) func33 rfl rfl rfl (sc rfl (sc rfl sn)) (fun a F=>?_);have H:=Sep.start y;refine xP ?_;obtain⟨I,rfl,A,C⟩:=xI.o z;refine oX F rfl rfl rfl H fun a w J H F=>xA 1 F rfl fun a F=>xJ (xC (xW (xP (fU isAgg31 sizeOf31 F rfl rfl (H.b 0 rfl) rfl rfl (fun a F=>?_)))));obtain⟨D,x,d⟩:=xB d;refine oK F rfl call73 rfl H (impl_ValidTemplate_c D x _ aA (xI.m A (H.a C))) fun a w H F=>xA 2 F rfl fun a F=>xJ (qP F rfl (fun h=>?_) (fun h=>?_))
 ·
  replace d:=vR h d;refine xP (xA 1 F rfl fun a F=>xJ (xT (vJ (oE (xS F rfl (oD F rfl) ?_)))));obtain rfl:=oj d;exact⟨⟨rfl,H.bl⟩,(show xZ (1) by decide)⟩
 replace d:=vQ h d;refine xP (oH dA F rfl rfl rfl fun a F=>oB isAgg2 F rfl rfl (H.b 0 rfl) rfl fun a F=>xA 2 F rfl fun a F=>xJ (qP F rfl (fun i=>?_) (fun i=>?_)))
 ·
  replace d:=vR i d;refine xP (xA 1 F rfl fun a F=>xJ (xT (vJ (oE (xS F rfl (oD F rfl) ?_)))));obtain rfl:=oj d;exact⟨⟨rfl,H.bl⟩,(show xZ (4) by decide)⟩
 replace d:=vQ i d;refine xP (xA 1 F rfl fun a F=>?_);obtain⟨E,G,d⟩:=xB d;refine oK F rfl call34 rfl H (impl_isClass_c E G _ aA t) fun a w H F=>xA 2 F rfl fun a F=>xJ (qP F rfl (fun j=>?_) (fun j=>?_))
 ·
  replace d:=vR j d;refine xP (xA 1 F rfl fun a F=>xJ (xT (vJ (oE (xS F rfl (oD F rfl) ?_)))));obtain rfl:=oj d;exact⟨⟨rfl,H.bl⟩,(show xZ (2) by decide)⟩
 replace d:=vQ j d;refine xL (qS (xF (xP (xA 1 F rfl fun a F=>xJ (xT (xS F rfl (oD F rfl) ?_))))));obtain rfl:=oj d;exact⟨⟨rfl,H.bl⟩,(show xZ (0) by decide)⟩
def impl_readDigits (d:ByteArray):Option (List Int):=
 vT (σ:=(List Int)) (
  qJ (σ:=(List Int)) (ρ:=(List Int)) (fun (j:Nat) (c:UInt8) (e:(List Int))=>
   vT (σ:=Bool) (
    if (decide ((c.toNat:Int)<((48:UInt8).toNat:Int))) then  some (.nx true) else  some (.nx (decide (((57:UInt8).toNat:Int)<(c.toNat:Int))))) fun f=>
   if f then
    some (.ret ([]))
   else
    xY (ap e ([((u8w ((c.toNat:Int) - ((48:UInt8).toNat:Int))).toNat:Int)])) fun h=>
    some (.go h)) d.data.toList 0 []) fun i=>
 some i
theorem fX {B:Nat→Prop} {e:ByteArray} (r:(List Int)) (d:impl_readDigits e=some r)  (n:World) (X:∀ c,B c→c<n.heap.size) (Q:e.size≤maxLen):Calls Tryz.prog 75 #[.string e] n (Gv (fun v w'=>∃ (K:Value),v=K∧Sep [] B n w' [rl 1 xH 2 K r])):=by
 unfold impl_readDigits at d
 refine xV (L:=[(0,.string e)]) func75 rfl rfl rfl (sc rfl sn) (fun a F=>?_);have H:=Sep.start X;refine xP (xA 1 F rfl fun a F=>qO (oR0 (R:=xH) underlying25 sizeOf2 F rfl H fun a w Y H F=>xA 1 F rfl fun a F=>xJ ?_));refine xC (xP (xA 1 F rfl fun a F=>oSB underlying9 underlying22 underlying5 F rfl rfl Q H fun a w A H F=>oL underlying22 F rfl rfl (H.ro 0 rfl) fun a O F=>xA 1 F rfl fun a F=>xJ ?_));obtain⟨P,d,M⟩:=xK d;refine xX (fun a w=>∃ (G:List Int) (C:Value),P= .nx G∧Sk a 28 [(3,C)]∧Sep [] B n w [rl 1 xH 2 C G]) ?_ ?_
 ·
  refine xW ?_;obtain⟨S,T,d⟩:=qE d;refine oU (fun g a w=>∃ (h:Nat) (i:List UInt8) (x:List Int) (p:Value),(h≤e.data.toList.length∧e.data.toList.drop h=i)∧i.length=g∧qJ S i h x=some P∧Sk a 28 [(10,xG (h:Int)),(3,p),(8,A),(9,xG (e.data.toList.length:Int))]∧Sep [] B n w [ro N0 (V:=(Sl 1 cL)) A e.data.toList,rl 1 xH 2 p x]) e.data.toList.length ?_ ?_
  ·
   exact⟨0,e.data.toList,[],Y,⟨Nat.zero_le _,rfl⟩,rfl,d,F.su,H⟩
  intro g1 a w ⟨h,i,x,p,f,U,d,F,H⟩
  cases i with
  | nil=>
   replace d:=qH d;have Z:=qG f.1 f.2;have I:=vA Z;refine xP (xA 1 F rfl fun a F=>xJ (xC (qT F rfl I (oM (oR (oR (vH ?_)))))));refine xF ?_;exact⟨x,p,(vE d),F.su,(H.s [1] rfl rfl)⟩
  | cons D i=>
   subst U;replace f:=oO f.2;have y1:=oZ f.2.1;obtain⟨a7,d,N⟩:=oV d;rw[T] at d;have I:=qM f.1;refine xP (xA 1 F rfl fun a F=>xJ (xC (qV F rfl I (xL (xF (xC ?_))))));have j1:=fE (Nat.le_of_lt f.1) O;have m1:=zC f.1 O;refine xW (xP (oI underlying22 sizeOf5 F rfl rfl rfl (H.ro 0 rfl) y1 fun a p1 h1 F=>olU isAgg5 F rfl rfl (Sm.refl _ _) h1 fun a F=>xA 1 F rfl fun a F=>xJ (xC (xC ?_))));obtain⟨o2,d,W⟩:=xK d;refine xX (fun a w=>∃ (J:Bool),o2= .nx J∧Sk a 28 [(3,p),(5,.int .u8 (D).toNat),(8,A),(9,xG (e.data.toList.length:Int)),(10,xG (h:Int)),(19,.bool J)]∧Sep [] B n w [ro N0 (V:=(Sl 1 cL)) A e.data.toList,rl 1 xH 2 p x]) ?_ ?_
   ·
    refine xU (xA 1 F rfl fun a F=>o_lssU (j:=(48:UInt8)) F rfl rfl rfl fun a F=>xA 1 F rfl fun a F=>?_)
    rcases qU (decide ((D.toNat:Int)<((48:UInt8).toNat:Int))) with t | t
    ·
     replace d:=vR t d;have F:=F.eb 16 rfl t;refine xA 3 F rfl fun a F=>xJ ?_;exact⟨true,(vE d),F.su,H⟩
    replace d:=vQ t d;have F:=F.eb 16 rfl t;refine xA 1 F rfl fun a F=>o_gtrU (j:=(57:UInt8)) F rfl rfl rfl fun a F=>xA 1 F rfl fun a F=>xJ ?_;exact⟨(decide (((57:UInt8).toNat:Int)<(D.toNat:Int))),(vE d),F.su,H⟩
   rintro a w ⟨J,rfl,F,H⟩
   have d:=xN W;refine xF (qP F rfl (fun E=>?_) (fun E=>?_))
   ·
    replace d:=vR E d;refine xP (xA 1 F rfl fun a F=>xJ (xT (oE (vJ (oE (oE ?_))))));replace d:=zR d N;refine vJ (oE ?_);replace d:=zQ d M;refine oE (xS F rfl (oD F rfl) ?_);obtain rfl:=oj d;exact⟨_,rfl,aE,rfl,((H.nl 1 xH 2).s [0] rfl rfl)⟩
   replace d:=vQ E d;refine xL (xF (xU (xA 2 F rfl fun a F=>o_subU (j:=(48:UInt8)) F rfl rfl rfl fun a F=>o_convI underlying5 underlying2 F rfl rfl fun a F=>oR1z (R:=xH) (y:=((u8w ((D.toNat:Int) - ((48:UInt8).toNat:Int))).toNat:Int)) underlying25 sizeOf2 zeroValue2 rfl rfl F rfl rfl H (Eo.int (u8_i64 _)) (fun a w v5 H F=>?_))));obtain⟨z1,c1,d⟩:=xB d;refine oPL (sz:=1) (R:=xH) (z:=(xG 0)) (bytes:=8) underlying25 (by kernel_rfl) rfl rfl F rfl rfl rfl (H.s [2,0,1] rfl rfl) c1 fun a w v6 H F=>xA 1 F rfl fun a F=>oY (qS (xF (xU (qQ F rfl rfl rfl m1 fun a F=>xA 1 F rfl fun a F=>xJ ?_))));replace d:=qX d N;exact⟨_,Nat.lt_succ_self _,h+1,i,z1,v6,⟨f.1,f.2.2⟩,rfl,d,F.su,(H.s [1,0] rfl rfl)⟩
 rintro a w ⟨G,C,rfl,F,H⟩
 have d:=xN M;refine xF (xP (xA 2 F rfl fun a F=>xJ (xT (xS F rfl (oD F rfl) ?_))));obtain rfl:=oj d;exact⟨_,rfl,C,rfl,H⟩
def cI (e:Int):Option Op:=
 xY (ck (e - 1)) fun c=>
 xY (ix ([(bstr [48,48]),(bstr [49,49]),(bstr [48,48,48,49]),(bstr [48,49,49,49]),(bstr [48,48,48,49,48,49,49,49]),(bstr [48,49,49,48,49,48,48,49])]) c) fun d=>
 xY (ix ([1,1,2,2,3,3]) c) fun f=>
 xY (impl_readDigits d) fun h=>
 some ((Op.mk f h))
theorem cU {B:Nat→Prop} {p:Int} (r:Op) (e:cI p=some r)  (A:World) (N:∀ c,B c→c<A.heap.size) (a6:xZ p):Calls Tryz.prog 36 #[xG p] A (Gv (fun v w'=>∃ (J:Value),v= .agg #[xG r.arity,J]∧Sep [] B A w' [rl 1 xH 2 J r.table]∧xZ r.arity)):=by
 unfold cI at e
 refine xV (L:=[(0,xG p)]) func36 rfl rfl rfl (sc rfl sn) (fun a F=>?_);have H:=Sep.start N;refine xP (oA zeroValue27 F rfl rfl H fun a w b1 H F=>qO (oRE Value.string _ litStr (fun _=>rfl) (xs:=[.const (.string (bstr [48,48])),.const (.string (bstr [49,49])),.const (.string (bstr [48,48,48,49])),.const (.string (bstr [48,49,49,49])),.const (.string (bstr [48,48,48,49,48,49,49,49])),.const (.string (bstr [48,49,49,48,49,48,48,49]))]) (l:=[(bstr [48,48]),(bstr [49,49]),(bstr [48,48,48,49]),(bstr [48,49,49,49]),(bstr [48,48,48,49,48,49,49,49]),(bstr [48,49,49,48,49,48,48,49])]) underlying122 sizeOf9 zeroValue9 rfl F rfl rfl rfl rfl rfl rfl (by simp only[List.forall_mem_cons,List.not_mem_nil,false_implies,implies_true,and_true];exact⟨(by decide),(by decide),(by decide),(by decide),(by decide),(by decide)⟩) H fun a w v1 H F=>xA 1 F rfl fun a F=>xJ ?_));refine xC ?_;obtain⟨z1,K,e⟩:=xB e;obtain⟨a7,O,e⟩:=xB e;obtain⟨i,C,e⟩:=xB e;obtain⟨t,y,e⟩:=xB e;obtain⟨w1,rfl⟩:∃ x,x=w:=⟨_,rfl⟩;have a8:=H.sm;obtain⟨X1,N1,P,e1,H,n,a9⟩:=H.fza;have Q:=P.ld;refine xD H (by kernel_rfl) fun w H=>vM 1 rfl (by kernel_rfl) (oJ F rfl (fun w l=>xM F rfl) fun a F=>vM 2 rfl (by kernel_rfl) (oJ F rfl (fun w l=>r_sub F rfl rfl K) fun a F=>vM 5 rfl (by kernel_rfl) (oJ F rfl (fun w l=>xM F rfl) fun a F=>vM 6 rfl (by kernel_rfl) (oJ F rfl (fun w l=>xM F rfl) fun a F=>vM 7 rfl (by kernel_rfl) (oJ F rfl (fun w l=>r_sub F rfl rfl K) (fun a F=>?_))))));refine qY 8 rfl (by kernel_rfl) (vI underlying122 sizeOf9 F rfl rfl rfl Q O fun a p1 R F=>qY 9 rfl (by kernel_rfl) (vlT isAgg9 F rfl rfl H.v R fun a z F=>b_es [0,10] (by kernel_rfl) (by simp) ⟨⟨_,rfl,?_⟩,⟨_,rfl,?_⟩,trivial⟩))
 ·
  refine xEs H (oRI (xs:=[.const (xG 1),.const (xG 1),.const (xG 2),.const (xG 2),.const (xG 3),.const (xG 3)]) (l:=[1,1,2,2,3,3]) underlying25 sizeOf2 zeroValue2 rfl F rfl rfl rfl rfl rfl rfl (by simp only[List.forall_mem_cons,List.not_mem_nil,false_implies,implies_true,and_true];exact⟨(show xZ (1) by decide),(show xZ (1) by decide),(show xZ (2) by decide),(show xZ (2) by decide),(show xZ (3) by decide),(show xZ (3) by decide)⟩) H fun a w v2 H F=>xJ ⟨⟨_,H⟩,?_⟩);refine b_es [3,10] (by kernel_rfl) (by simp) ⟨⟨_,rfl,?_⟩,⟨_,rfl,?_⟩,trivial⟩
  ·
   refine xEs H ?_;obtain⟨w2,rfl⟩:∃ x,x=w:=⟨_,rfl⟩;have aa:=H.sm;obtain⟨X2,N2,T,e2,H,d,a5⟩:=H.fza;have U:=T.ld;refine oI underlying25 sizeOf2 F rfl rfl rfl U C fun a p2 M F=>xJ ⟨⟨_,(d.1 H (Ns.all ⟨n0,trivial⟩))⟩,?_⟩;refine b_es [4,10] (by kernel_rfl) (by simp) ⟨⟨_,rfl,?_⟩,⟨_,rfl,?_⟩,trivial⟩
   ·
    refine xEs (d.1 H (Ns.all ⟨n0,trivial⟩)) (aN isAgg2 F rfl rfl H.sm M fun a V F=>xJ ⟨⟨_,(d.1 H (Ns.all ⟨n0,trivial⟩))⟩,?_⟩);refine xE (d.1 H (Ns.all ⟨n0,trivial⟩)) 10 rfl (by kernel_rfl) (oG F rfl call75 rfl (fX t y _ aA z) (fun a j w ⟨D,ab,S⟩ F=>?_));subst j;have H:=H.r1 S n0;refine xJ ⟨⟨_,(d.1 H (Ns.all ⟨n0,⟨n0,trivial⟩⟩))⟩,?_⟩;refine xE (d.1 H (Ns.all ⟨n0,⟨n0,trivial⟩⟩)) 11 rfl (by kernel_rfl) (kV underlying27 zeroValue27 (fun w=>by simp [sizeOf2,sizeOf25];rfl) F rfl rfl rfl rfl rfl (oc rfl (oc (H.l 0 rfl).one on)) rfl rfl fun a F=>xJ ⟨⟨_,(d.1 H (Ns.all ⟨n0,⟨n0,trivial⟩⟩))⟩,?_⟩);refine xE (d.1 H (Ns.all ⟨n0,⟨n0,trivial⟩⟩)) 12 rfl (by kernel_rfl) (oWA (vs:=[xG i,D]) sizeOf27 F rfl rfl rfl (H.s [1,0] rfl rfl) (oc rfl (oc ((H.s [1,0] rfl rfl).l 1 rfl).one on)) rfl rfl fun w H=>xJ ⟨⟨_,(d.1 H (Ns.all ⟨n0,⟨n0,trivial⟩⟩))⟩,?_⟩);refine bF (by kernel_rfl) (xF (xT ?_));have H:=(n.1 (d.1 H (Ns.all ⟨n0,⟨n0,trivial⟩⟩)) (Ns.all ⟨n0,⟨n0,⟨n0,trivial⟩⟩⟩));refine xS F rfl (gU (arr:=#[xG i,D]) F isAgg27 sizeOf27 rfl (H.b 2 rfl)) ?_;obtain rfl:=oj e;exact⟨_,rfl,D,rfl,(H.s [3] rfl rfl),V⟩
   refine xEs (d.1 H (Ns.all ⟨n0,trivial⟩)) (oG F rfl call75 rfl (fX t y _ aA z) (fun a j w ⟨E,ac,S⟩ F=>?_));subst j;have H:=H.r1 S n0;refine xJ ⟨⟨_,(d.1 H (Ns.all ⟨n0,⟨n0,trivial⟩⟩))⟩,?_⟩;refine xE (d.1 H (Ns.all ⟨n0,⟨n0,trivial⟩⟩)) 4 rfl (by kernel_rfl) (aN isAgg2 F rfl rfl H.sm M fun a W F=>xJ ⟨⟨_,(d.1 H (Ns.all ⟨n0,⟨n0,trivial⟩⟩))⟩,?_⟩);refine xE (d.1 H (Ns.all ⟨n0,⟨n0,trivial⟩⟩)) 11 rfl (by kernel_rfl) (kV underlying27 zeroValue27 (fun w=>by simp [sizeOf2,sizeOf25];rfl) F rfl rfl rfl rfl rfl (oc rfl (oc (H.l 0 rfl).one on)) rfl rfl fun a F=>xJ ⟨⟨_,(d.1 H (Ns.all ⟨n0,⟨n0,trivial⟩⟩))⟩,?_⟩);refine xE (d.1 H (Ns.all ⟨n0,⟨n0,trivial⟩⟩)) 12 rfl (by kernel_rfl) (oWA (vs:=[xG i,E]) sizeOf27 F rfl rfl rfl (H.s [1,0] rfl rfl) (oc rfl (oc ((H.s [1,0] rfl rfl).l 1 rfl).one on)) rfl rfl fun w H=>xJ ⟨⟨_,(d.1 H (Ns.all ⟨n0,⟨n0,trivial⟩⟩))⟩,?_⟩);refine bF (by kernel_rfl) (xF (xT ?_));have H:=(n.1 (d.1 H (Ns.all ⟨n0,⟨n0,trivial⟩⟩)) (Ns.all ⟨n0,⟨n0,⟨n0,trivial⟩⟩⟩));refine xS F rfl (gU (arr:=#[xG i,E]) F isAgg27 sizeOf27 rfl (H.b 2 rfl)) ?_;obtain rfl:=oj e;exact⟨_,rfl,E,rfl,(H.s [3] rfl rfl),W⟩
  refine xEs H (oG F rfl call75 rfl (fX t y _ aA z) (fun a j w ⟨G,ad,S⟩ F=>?_));subst j;have H:=H.r1 S n0;refine xJ ⟨⟨_,H⟩,?_⟩;refine xE H 3 rfl (by kernel_rfl) ?_;obtain⟨w3,rfl⟩:∃ x,x=w:=⟨_,rfl⟩;have ae:=H.sm;obtain⟨X3,N3,X,e3,H,f,af⟩:=(H.s [1,0,2] rfl rfl).fza;have Y:=X.ld;refine oI underlying25 sizeOf2 F rfl rfl rfl Y C fun a p3 Z F=>xJ ⟨⟨_,(f.1 H (Ns.all ⟨n0,⟨n0,trivial⟩⟩))⟩,?_⟩;refine xE (f.1 H (Ns.all ⟨n0,⟨n0,trivial⟩⟩)) 4 rfl (by kernel_rfl) (aN isAgg2 F rfl rfl H.sm Z fun a i4 F=>xJ ⟨⟨_,(f.1 H (Ns.all ⟨n0,⟨n0,trivial⟩⟩))⟩,?_⟩);refine xE (f.1 H (Ns.all ⟨n0,⟨n0,trivial⟩⟩)) 11 rfl (by kernel_rfl) (kV underlying27 zeroValue27 (fun w=>by simp [sizeOf2,sizeOf25];rfl) F rfl rfl rfl rfl rfl (oc rfl (oc (H.l 0 rfl).one on)) rfl rfl fun a F=>xJ ⟨⟨_,(f.1 H (Ns.all ⟨n0,⟨n0,trivial⟩⟩))⟩,?_⟩);refine xE (f.1 H (Ns.all ⟨n0,⟨n0,trivial⟩⟩)) 12 rfl (by kernel_rfl) (oWA (vs:=[xG i,G]) sizeOf27 F rfl rfl rfl (H.s [1,0] rfl rfl) (oc rfl (oc ((H.s [1,0] rfl rfl).l 1 rfl).one on)) rfl rfl fun w H=>xJ ⟨⟨_,(f.1 H (Ns.all ⟨n0,⟨n0,trivial⟩⟩))⟩,?_⟩);refine bF (by kernel_rfl) (xF (xT ?_));have H:=(n.1 (f.1 H (Ns.all ⟨n0,⟨n0,trivial⟩⟩)) (Ns.all ⟨n0,⟨n0,⟨n0,trivial⟩⟩⟩));refine xS F rfl (gU (arr:=#[xG i,G]) F isAgg27 sizeOf27 rfl (H.b 2 rfl)) ?_;obtain rfl:=oj e;exact⟨_,rfl,G,rfl,(H.s [3] rfl rfl),i4⟩
 refine xEs H (oG F rfl call75 rfl (fX t y _ aA z) (fun a j w ⟨I,ag,S⟩ F=>?_));subst j;have H:=H.r1 S n0;refine xJ ⟨⟨_,H⟩,?_⟩;refine xE H 0 rfl (by kernel_rfl) (oRI (xs:=[.const (xG 1),.const (xG 1),.const (xG 2),.const (xG 2),.const (xG 3),.const (xG 3)]) (l:=[1,1,2,2,3,3]) underlying25 sizeOf2 zeroValue2 rfl F rfl rfl rfl rfl rfl rfl (by simp only[List.forall_mem_cons,List.not_mem_nil,false_implies,implies_true,and_true];exact⟨(show xZ (1) by decide),(show xZ (1) by decide),(show xZ (2) by decide),(show xZ (2) by decide),(show xZ (3) by decide),(show xZ (3) by decide)⟩) H fun a w v7 H F=>xJ ⟨⟨_,H⟩,?_⟩);refine xE H 3 rfl (by kernel_rfl) ?_;obtain⟨w4,rfl⟩:∃ x,x=w:=⟨_,rfl⟩;have ah:=H.sm;obtain⟨X4,N4,g4,e4,H,h,ai⟩:=H.fza;have h7:=g4.ld;refine oI underlying25 sizeOf2 F rfl rfl rfl h7 C fun a p4 h8 F=>xJ ⟨⟨_,(h.1 H (Ns.all ⟨n0,⟨n0,trivial⟩⟩))⟩,?_⟩;refine xE (h.1 H (Ns.all ⟨n0,⟨n0,trivial⟩⟩)) 4 rfl (by kernel_rfl) (aN isAgg2 F rfl rfl H.sm h8 fun a i5 F=>xJ ⟨⟨_,(h.1 H (Ns.all ⟨n0,⟨n0,trivial⟩⟩))⟩,?_⟩);refine xE (h.1 H (Ns.all ⟨n0,⟨n0,trivial⟩⟩)) 11 rfl (by kernel_rfl) (kV underlying27 zeroValue27 (fun w=>by simp [sizeOf2,sizeOf25];rfl) F rfl rfl rfl rfl rfl (oc rfl (oc (H.l 0 rfl).one on)) rfl rfl fun a F=>xJ ⟨⟨_,(h.1 H (Ns.all ⟨n0,⟨n0,trivial⟩⟩))⟩,?_⟩);refine xE (h.1 H (Ns.all ⟨n0,⟨n0,trivial⟩⟩)) 12 rfl (by kernel_rfl) (oWA (vs:=[xG i,I]) sizeOf27 F rfl rfl rfl (H.s [1,0] rfl rfl) (oc rfl (oc ((H.s [1,0] rfl rfl).l 1 rfl).one on)) rfl rfl fun w H=>xJ ⟨⟨_,(h.1 H (Ns.all ⟨n0,⟨n0,trivial⟩⟩))⟩,?_⟩);refine bF (by kernel_rfl) (xF (xT ?_));have H:=(n.1 (h.1 H (Ns.all ⟨n0,⟨n0,trivial⟩⟩)) (Ns.all ⟨n0,⟨n0,⟨n0,trivial⟩⟩⟩));refine xS F rfl (gU (arr:=#[xG i,I]) F isAgg27 sizeOf27 rfl (H.b 2 rfl)) ?_;obtain rfl:=oj e;exact⟨_,rfl,I,rfl,(H.s [3] rfl rfl),i5⟩
def gH (c d:Int):Option Int:=
 vT (σ:=Int) (
  zH (σ:=Int) (ρ:=Int) (fun (i:Nat) (e:Int)=>
   xY (ck (e*c)) fun f=>
   some (.go f)) d.toNat 0 1) fun h=>
 some h
theorem gN {B:Nat→Prop} {f e:Int} (r:Int) (d:gH f e=some r)  (h:World) (I:∀ c,B c→c<h.heap.size) (O:xZ f) (x:xZ e):Calls Tryz.prog 79 #[xG f,xG e] h (dW r h):=by
 unfold gH at d
 refine xV (L:=[(0,xG f),(1,xG e)]) func79 rfl rfl rfl (sc rfl (sc rfl sn)) (fun a F=>?_);have H:=Sep.start I;refine xP (xA 1 F rfl fun a F=>qO (xA 1 F rfl fun a F=>xJ (xC ?_)));refine xP (xA 2 F rfl fun a F=>xJ ?_);obtain⟨z,d,C⟩:=xK d;refine xX (fun a w=>∃ (p:Int),z= .nx p∧Sk a 14 [(5,xG p)]∧Sep [] B h w []∧xZ p) ?_ ?_
 ·
  refine xW ?_;obtain⟨D,E,d⟩:=zG d;refine oU (fun g a w=>∃ (i:Nat) (j:Int),i+g=e.toNat∧zH D g i j=some z∧Sk a 14 [(7,xG (i:Int)),(0,xG f),(5,xG j),(6,xG e)]∧Sep [] B h w []∧xZ j) e.toNat ?_ ?_
  ·
   exact⟨0,1,(Nat.zero_add _),d,F.su,H,(show xZ (1) by decide)⟩
  intro A a w ⟨i,j,n,d,F,H,J⟩
  cases A with
  | zero=>
   replace d:=vY d;have t:=kT n;refine xP (xA 1 F rfl fun a F=>xJ (xC (qT F rfl t (oM (oR (oR (vH ?_)))))));refine xF ?_;exact⟨j,(vE d),F.su,H,J⟩
  | succ A=>
   obtain⟨P,d,G⟩:=vX d;rw[E] at d;have t:=zW n;refine xP (xA 1 F rfl fun a F=>xJ (xC (qV F rfl t (xL (xF (xC ?_))))));have Q:=k64I n x;have K:=bC n x;refine xW (xU (xA 2 F rfl fun a F=>?_));obtain⟨M,y,d⟩:=xB d;refine o_mul F rfl rfl rfl y fun a F=>xA 1 F rfl fun a F=>oY (qS (xF (xU (qQ F rfl rfl rfl K fun a F=>xA 1 F rfl fun a F=>xJ ?_))));replace d:=qX d G;exact⟨_,Nat.lt_succ_self _,i+1,M,(by omega),d,F.su,H,(kG y)⟩
 rintro a w ⟨p,rfl,F,H,N⟩
 have d:=xN C;refine xF (xP (xA 2 F rfl fun a F=>xJ (xT (xS F rfl (oD F rfl) ?_))));obtain rfl:=oj d;exact⟨⟨rfl,H.bl⟩,N⟩
def impl_indexOf (c:Int) (d:List Int):Option Int:=
 vT (σ:=Int) (
  qJ (σ:=Int) (ρ:=Int) (fun (n:Nat) (e f:Int)=>
   xY (ck (f*c)) fun h=>
   xY (ck (h+e)) fun i=>
   some (.go i)) d 0 0) fun j=>
 some j
theorem impl_indexOf_c {B:Nat→Prop} {n:Int} {h:List Int} (r:Int) (d:impl_indexOf n h=some r) {t:Value} (i:World) (M:∀ c,B c→c<i.heap.size) (V:xZ n) (z:Bo B i (Sl 1 xH) t h):Calls Tryz.prog 80 #[xG n,t] i (dW r i):=by
 unfold impl_indexOf at d
 refine xV (L:=[(0,xG n),(1,t)]) func80 rfl rfl rfl (sc rfl (sc rfl sn)) (fun a F=>?_);have H:=Sep.start M;refine xP (xA 1 F rfl fun a F=>qO (xA 1 F rfl fun a F=>xJ (xC ?_)));refine xP (xA 1 F rfl fun a F=>oL underlying25 F rfl rfl z fun a A F=>xA 1 F rfl fun a F=>xJ ?_);obtain⟨C,d,E⟩:=xK d;refine xX (fun a w=>∃ (x:Int),C= .nx x∧Sk a 21 [(5,xG x)]∧Sep [] B i w []∧xZ x) ?_ ?_
 ·
  refine xW ?_;obtain⟨G,I,d⟩:=qE d;refine oU (fun g a w=>∃ (j:Nat) (f:List Int) (p:Int),(j≤h.length∧h.drop j=f)∧f.length=g∧qJ G f j p=some C∧Sk a 21 [(10,xG (j:Int)),(0,xG n),(5,xG p),(8,t),(9,xG (h.length:Int))]∧Sep [] B i w []∧xZ p) h.length ?_ ?_
  ·
   exact⟨0,h,0,⟨Nat.zero_le _,rfl⟩,rfl,d,F.su,H,(show xZ (0) by decide)⟩
  intro X a w ⟨j,f,p,e,J,d,F,H,N⟩
  cases f with
  | nil=>
   replace d:=qH d;have O:=qG e.1 e.2;have y:=vA O;refine xP (xA 1 F rfl fun a F=>xJ (xC (qT F rfl y (oM (oR (oR (vH ?_)))))));refine xF ?_;exact⟨p,(vE d),F.su,H,N⟩
  | cons Y f=>
   subst J;replace e:=oO e.2;have P:=oZ e.2.1;obtain⟨W,d,K⟩:=oV d;rw[I] at d;have y:=qM e.1;refine xP (xA 1 F rfl fun a F=>xJ (xC (qV F rfl y (xL (xF (xC ?_))))));have Z:=fE (Nat.le_of_lt e.1) A;have Q:=zC e.1 A;refine xW (xP (oI underlying25 sizeOf2 F rfl rfl rfl z P fun a p1 R F=>aN isAgg2 F rfl rfl H.sm R fun a i3 F=>xA 1 F rfl fun a F=>xJ (xU (xA 2 F rfl fun a F=>?_))));obtain⟨z1,S,d⟩:=xB d;refine o_mul F rfl rfl rfl S fun a F=>xA 1 F rfl fun a F=>?_;obtain⟨T,D,d⟩:=xB d;refine kI F rfl rfl rfl D fun a F=>xA 1 F rfl fun a F=>oY (qS (xF (xU (qQ F rfl rfl rfl Q fun a F=>xA 1 F rfl fun a F=>xJ ?_))));replace d:=qX d K;exact⟨_,Nat.lt_succ_self _,j+1,f,T,⟨e.1,e.2.2⟩,rfl,d,F.su,H,(kG D)⟩
 rintro a w ⟨x,rfl,F,H,U⟩
 have d:=xN E;refine xF (xP (xA 2 F rfl fun a F=>xJ (xT (xS F rfl (oD F rfl) ?_))));obtain rfl:=oj d;exact⟨⟨rfl,H.bl⟩,U⟩
def aM (N:Nat) (f h i:Int):Option (List Int):=
 xY (mkz (0:Int) h) fun j=>
 xY (ck (h - 1)) fun n=>
 vT (σ:=Int×Int×(List Int)) (
  cF (σ:=Int×Int×(List Int)) (ρ:=(List Int)) (fun(s:Int×Int×(List Int))=>
    match s with
    | (e,c,d)=>
    if (decide (0≤c)) then
     xY (rm e f) fun p=>
     xY (ix d c) fun z=>
     xY (dv e f) fun t=>
     xY (ck (c - 1)) fun x=>
     some (.go (t,x,(d.set (c).toNat p)))
    else
     some (.brk (e,c,d))) N (i,n,j)) fun(A,B,y)=>
 some y
theorem impl_listOf_c {B:Nat→Prop} {N:Nat} {h t i:Int} (r:(List Int)) (d:aM N h t i=some r)  (j:World) (Y:∀ c,B c→c<j.heap.size) (S:xZ h) (a8:xZ t) (T:xZ i):Calls Tryz.prog 81 #[xG h,xG t,xG i] j (Gv (fun v w'=>∃ (E:Value),v=E∧Sep [] B j w' [rl 1 xH 2 E r])):=by
 unfold aM at d
 refine xV (L:=[(0,xG h),(1,xG t),(2,xG i)]) func81 rfl rfl rfl (sc rfl (sc rfl (sc rfl sn))) (fun a F=>?_);have H:=Sep.start Y;refine xP (xA 1 F rfl fun a F=>qO (xA 1 F rfl fun a F=>?_));obtain⟨Z,c1,d⟩:=xB d;refine oRM (sz:=1) (R:=xH) (z:=(xG 0)) (bytes:=8) underlying25 (by kernel_rfl) rfl (by decide) (by decide) (fun w=>⟨rfl,by decide,rfl⟩) F rfl rfl rfl c1 H fun a w v1 H F=>xA 1 F rfl fun a F=>xJ (xC (xP (xA 1 F rfl fun a F=>?_)));obtain⟨z2,G,d⟩:=xB d;refine iS F rfl rfl rfl G fun a F=>xA 1 F rfl fun a F=>xJ ?_;obtain⟨J,d,U⟩:=xK d;refine xX (fun a w=>∃ (A C:Int) (D:List Int) (x:Value),J= .nx (A,C,D)∧Sk a 27 [(7,x)]∧Sep [] B j w [rl 1 xH 2 x D]∧xZ A∧xZ C) ?_ ?_
 ·
  refine xW ?_;obtain⟨V,W,d⟩:=kU d;refine oU (fun g a w=>∃ (n e:Int) (f:List Int) (p:Value),cF V g (n,e,f)=some J∧Sk a 27 [(0,xG h),(2,xG n),(7,p),(8,xG e)]∧Sep [] B j w [rl 1 xH 2 p f]∧xZ n∧xZ e) N ?_ ?_
  ·
   exact⟨i,z2,Z,v1,d,F.su,H,T,(kG G)⟩
  intro g1 a w ⟨n,e,f,p,d,F,H,K,i2⟩;obtain⟨a9,t1,aa,d,I⟩:=zK d;rw[W] at d;refine xC (xP (xA 2 F rfl fun a F=>xJ (qP F rfl (fun y=>?_) (fun y=>?_))))
  ·
   replace d:=vR y d;refine xL (xF (xC (xW (xP (xA 4 F rfl fun a F=>?_)))));obtain⟨z3,M,d⟩:=xB d;refine o_rem F rfl rfl rfl M (fun a F=>?_);obtain⟨z4,O,d⟩:=xB d;refine oRl underlying25 sizeOf2 F rfl rfl rfl H 0 rfl O (fun a p1 h1 X F=>?_);have H:=H.lw;refine oS sizeOf2 F rfl rfl rfl H X (ix_lt O) (Eo.int (rm64 M K S)) rfl rfl (fun w H=>?_);have H:=H.tl;refine xJ (xU (xA 2 F rfl fun a F=>?_));obtain⟨z5,P,d⟩:=xB d;refine o_quo F rfl rfl rfl P fun a F=>xA 1 F rfl fun a F=>oY (qS (xF (xU (xA 1 F rfl fun a F=>?_))));obtain⟨z6,Q,d⟩:=xB d;refine iS F rfl rfl rfl Q fun a F=>xA 1 F rfl fun a F=>xJ ?_;replace d:=qX d I;exact⟨t1,(by omega),z5,z6,(f.set (e).toNat z3),p,d,F.su,H,(dv64 P),(kG Q)⟩
  replace d:=vQ y d;refine oM (oR (oR ?_));replace d:=eL d I;refine vH (xF ?_);exact⟨n,e,f,p,(vE d),F.su,H,K,i2⟩
 rintro a w ⟨A,C,D,x,rfl,F,H,i3,i4⟩
 have d:=xN U;refine xF (xP (xA 2 F rfl fun a F=>xJ (xT (xS F rfl (oD F rfl) ?_))));obtain rfl:=oj d;exact⟨_,rfl,x,rfl,H⟩
def impl_made (h:Int) (i:Op) (d:List (List Int)):Option (List Int):=
 xY (ix d 0) fun j=>
 xY (mkz (0:Int) (j.length:Int)) fun e=>
 vT (σ:=(List Int)) (
  qJ (σ:=(List Int)) (ρ:=(List Int)) (fun (c:Nat) (C:Int) (f:(List Int))=>
   vT (σ:=Int) (
    qJ (σ:=Int) (ρ:=(Ctl ((List Int)) (List Int))) (fun (D:Nat) (n:(List Int)) (p:Int)=>
     xY (ck (p*h)) fun t=>
     xY (ix n (c:Int)) fun x=>
     xY (ck (t+x)) fun y=>
     some (.go y)) d 0 0) fun z=>
   xY (ix i.table z) fun A=>
   xY (ix f (c:Int)) fun E=>
   some (.go (f.set ((c:Int)).toNat A))) e 0 e) fun B=>
 some B
theorem impl_made_c {B:Nat→Prop} {p:Int} {G:Op} {t:List (List Int)} (r:(List Int)) (d:impl_made p G t=some r) {M:Value} {x:Value} (i:World) (hN:∀ c,B c→c<i.heap.size) (b2:xZ p) (A1:Bo B i (zX 2 cS) M G) (N:Bo B i (Sl 1 (vO 1 xH)) x t):Calls Tryz.prog 82 #[xG p,M,x] i (Gv (fun v w'=>∃ (T:Value),v=T∧Sep [] B i w' [rl 1 xH 2 T r])):=by
 unfold impl_made at d
 refine xV (L:=[(0,xG p),(1,M),(2,x)]) func82 rfl rfl rfl (sc rfl (sc rfl (sc rfl sn))) (fun a F=>?_);have H:=Sep.start hN;refine xP ?_;obtain⟨O,rfl,i1,h1⟩:=cS.o A1;refine oX F rfl rfl rfl H fun a w D H F=>xA 1 F rfl fun a F=>qO (xA 1 F rfl fun a F=>?_);obtain⟨z1,a0,d⟩:=xB d;refine oI underlying45 sizeOf25 F rfl rfl rfl N a0 fun a p1 h2 F=>aY isAgg25 F rfl rfl H.sm h2 fun a v4 h3 F=>oL underlying25 F rfl rfl h3 (fun a i2 F=>?_);obtain⟨n,c1,d⟩:=xB d;refine oRM (sz:=1) (R:=xH) (z:=(xG 0)) (bytes:=8) underlying25 (by kernel_rfl) rfl (by decide) (by decide) (fun w=>⟨rfl,by decide,rfl⟩) F rfl rfl rfl c1 H fun a w v5 H F=>xA 1 F rfl fun a F=>xJ (xC (xP (xA 1 F rfl fun a F=>oL underlying25 F rfl rfl (H.l 0 rfl) fun a U F=>xA 1 F rfl fun a F=>oY ?_)));refine xF ?_;obtain⟨V,d,a1⟩:=xK d;refine xX (fun a w=>∃ (P:List Int) (J:Value),V= .nx P∧Sk a 47 [(7,J)]∧Sep [] B i w [rl 1 xH 2 J P]) ?_ ?_
 ·
  refine xW ?_;obtain⟨a2,a3,d⟩:=qE d;refine oU (fun g a w=>∃ (e:Nat) (y A:List Int) (j:Value),(e≤n.length∧n.drop e=y)∧y.length=g∧qJ a2 y e A=some V∧Sk a 47 [(19,xG (e:Int)),(0,xG p),(2,x),(4,vK D),(7,j),(18,xG (n.length:Int))]∧Sep [] B i w [rl 1 xH 2 j A,bx D [xG G.arity,O] 27]) n.length ?_ ?_
  ·
   exact⟨0,n,n,v5,⟨Nat.zero_le _,rfl⟩,rfl,d,F.su,H⟩
  intro g1 a w ⟨e,y,A,j,f,a4,d,F,H⟩
  cases y with
  | nil=>
   replace d:=qH d;have q1:=qG f.1 f.2;have Q:=vA q1;refine xP (xA 1 F rfl fun a F=>xJ (xC (qT F rfl Q (oM (oR (oR (vH ?_)))))));refine xF ?_;exact⟨A,j,(vE d),F.su,(H.s [0] rfl rfl)⟩
  | cons x3 y=>
   subst a4;replace f:=oO f.2;have y1:=oZ f.2.1;obtain⟨b3,d,a5⟩:=oV d;rw[a3] at d;have Q:=qM f.1;refine xP (xA 1 F rfl fun a F=>xJ (xC (qV F rfl Q (xL (xF (xC ?_))))));have j1:=fE (Nat.le_of_lt f.1) U;have m1:=zC f.1 U;refine xW (xP (xA 2 F rfl fun a F=>qO (xA 1 F rfl fun a F=>oY ?_)));refine xF (xC (xP (xA 1 F rfl fun a F=>oL underlying45 F rfl rfl N fun a W F=>xA 1 F rfl fun a F=>xJ ?_)));obtain⟨X,d,a6⟩:=xK d;refine xX (fun a w=>∃ (K:Int),X= .nx K∧Sk a 47 [(0,xG p),(2,x),(4,vK D),(7,j),(8,xG (e:Int)),(9,xG K),(18,xG (n.length:Int)),(19,xG (e:Int))]∧Sep [] B i w [rl 1 xH 2 j A,bx D [xG G.arity,O] 27]∧xZ K) ?_ ?_
   ·
    refine xW ?_;obtain⟨a7,a8,d⟩:=qE d;refine oU (fun g a w=>∃ (E:Nat) (C:List (List Int)) (I:Int),(E≤t.length∧t.drop E=C)∧C.length=g∧qJ a7 C E I=some X∧Sk a 47 [(24,xG (E:Int)),(0,xG p),(2,x),(4,vK D),(7,j),(8,xG (e:Int)),(9,xG I),(18,xG (n.length:Int)),(19,xG (e:Int)),(22,x),(23,xG (t.length:Int))]∧Sep [] B i w [rl 1 xH 2 j A,bx D [xG G.arity,O] 27]∧xZ I) t.length ?_ ?_
    ·
     exact⟨0,t,0,⟨Nat.zero_le _,rfl⟩,rfl,d,F.su,H,(show xZ (0) by decide)⟩
    intro g2 a w ⟨E,C,I,h,a9,d,F,H,i5⟩
    cases C with
    | nil=>
     replace d:=qH d;have q2:=qG h.1 h.2;have S:=vA q2;refine xP (xA 1 F rfl fun a F=>xJ (xC (qT F rfl S (oM (oR (oR (vH ?_)))))));refine xF ?_;exact⟨I,(vE d),F.su,H,i5⟩
    | cons x4 C=>
     subst a9;replace h:=oO h.2;have y2:=oZ h.2.1;obtain⟨b4,d,aa⟩:=oV d;rw[a8] at d;have S:=qM h.1;refine xP (xA 1 F rfl fun a F=>xJ (xC (qV F rfl S (xL (xF (xC ?_))))));have j2:=fE (Nat.le_of_lt h.1) W;have m2:=zC h.1 W;refine xW (xP (oI underlying45 sizeOf25 F rfl rfl rfl N y2 fun a p2 h4 F=>aY isAgg25 F rfl rfl H.sm h4 fun a v8 h5 F=>xA 1 F rfl fun a F=>xJ (xU (xA 2 F rfl fun a F=>?_))));obtain⟨z3,c2,d⟩:=xB d;refine o_mul F rfl rfl rfl c2 fun a F=>xA 2 F rfl fun a F=>?_;obtain⟨z4,c3,d⟩:=xB d;refine oI underlying25 sizeOf2 F rfl rfl rfl h5 c3 fun a p3 h6 F=>aN isAgg2 F rfl rfl H.sm h6 (fun a i6 F=>?_);obtain⟨z5,Y,d⟩:=xB d;refine kI F rfl rfl rfl Y fun a F=>xA 1 F rfl fun a F=>oY (qS (xF (xU (qQ F rfl rfl rfl m2 fun a F=>xA 1 F rfl fun a F=>xJ ?_))));replace d:=qX d aa;exact⟨_,Nat.lt_succ_self _,E+1,C,z5,⟨h.1,h.2.2⟩,rfl,d,F.su,H,(kG Y)⟩
   rintro a w ⟨K,rfl,F,H,i7⟩
   have d:=xN a6;refine xF (xU (xA 2 F rfl fun a F=>oH fa27_1 F rfl rfl rfl fun a F=>oB isAgg25 F rfl rfl (H.b 1 rfl) rfl fun a F=>xA 1 F rfl fun a F=>?_));obtain⟨z6,c5,d⟩:=xB d;refine oI underlying25 sizeOf2 F rfl rfl rfl h1 c5 fun a p4 h7 F=>aN isAgg2 F rfl rfl H.sm h7 (fun a i8 F=>?_);obtain⟨z7,Z,d⟩:=xB d;refine oRl underlying25 sizeOf2 F rfl rfl rfl H 0 rfl Z (fun a p5 h8 ab F=>?_);have H:=H.lw;refine oS sizeOf2 F rfl rfl rfl H ab (ix_lt Z) (Eo.int i8) rfl rfl (fun w H=>?_);have H:=H.tl;refine oY (qS (xF (xU (qQ F rfl rfl rfl m1 fun a F=>xA 1 F rfl fun a F=>xJ ?_))));replace d:=qX d a5;exact⟨_,Nat.lt_succ_self _,e+1,y,(A.set ((e:Int)).toNat z6),j,⟨f.1,f.2.2⟩,rfl,d,F.su,H⟩
 rintro a w ⟨P,J,rfl,F,H⟩
 have d:=xN a1;refine xF (xP (xA 2 F rfl fun a F=>xJ (xT (xS F rfl (oD F rfl) ?_))));obtain rfl:=oj d;exact⟨_,rfl,J,rfl,H⟩
def impl_broken (N:Nat) (d:Int) (e:Op) (c:Rel):Option ((List (List Int))×(List Int)):=
 xY (gH d c.arity) fun h=>
 if ((c.tuples.length:Int)==h) then
  some ([],[])
 else
  xY (mkz (false:Bool) h) fun x=>
  vT (σ:=(List Bool)) (
   qJ (σ:=(List Bool)) (ρ:=(List (List Int))×(List Int)) (fun (I:Nat) (y:(List Int)) (i:(List Bool))=>
    xY (impl_indexOf d y) fun j=>
    xY (ix i j) fun J=>
    some (.go (i.set (j).toNat true))) c.tuples 0 x) fun z=>
  xY (gH (c.tuples.length:Int) e.arity) fun A=>
  vT (σ:=Unit) (
   zH (σ:=Unit) (ρ:=(List (List Int))×(List Int)) (fun (B:Nat) (s:Unit)=>
     match s with
     | _=>
     xY (aM N (c.tuples.length:Int) e.arity (B:Int)) fun C=>
     vT (σ:=(List (List Int))) (
      qJ (σ:=(List (List Int))) (ρ:=(Ctl (Unit) ((List (List Int))×(List Int)))) (fun (K:Nat) (D:Int) (E:(List (List Int)))=>
       xY (ix c.tuples D) fun F=>
       xY (ap E ([F])) fun G=>
       some (.go G)) C 0 []) fun n=>
     xY (impl_made d (Op.mk e.arity e.table) n) fun f=>
     xY (impl_indexOf d f) fun p=>
     xY (ix z p) fun t=>
     if (!t) then
      xY (nev f) fun H=>
      some (.ret (n,f))
     else
      some (.go ())) A.toNat 0 ()) fun _=>
  some ([],[])
theorem impl_broken_c {B:Nat→Prop} {N:Nat} {p:Int} {x:Op} {e:Rel} (r:(List (List Int))×(List Int)) (d:impl_broken N p x e=some r) {v1:Value} {v2:Value} (f:World) (hN:∀ c,B c→c<f.heap.size) (O:xZ p) (A1:Bo B f (zX 2 cS) v1 x) (A2:Bo B f (zX 2 qD) v2 e):Calls Tryz.prog 40 #[xG p,v1,v2] f (Gv (fun v w'=>∃ (aa Z:Value),v= .tuple #[aa,Z]∧Sep [] B f w' [rw B 1 (vO 1 xH) 25 aa r.1,rl 1 xH 2 Z r.2]∧(r.2=[]→Z= .slice none 0 0))):=by
 unfold impl_broken at d
 refine xV (L:=[(0,xG p),(1,v1),(2,v2)]) func40 rfl rfl rfl (sc rfl (sc rfl (sc rfl sn))) (fun a F=>?_);have H:=Sep.start hN;refine xP ?_;obtain⟨P,rfl,i1,h1⟩:=cS.o A1;refine oX F rfl rfl rfl H (fun a w j H F=>?_);obtain⟨G,rfl,i2,X⟩:=qD.o A2;refine oX F rfl rfl rfl H fun a w n H F=>xA 2 F rfl fun a F=>qO (oH vW F rfl rfl rfl fun a F=>oB isAgg45 F rfl rfl (H.b 0 rfl) rfl fun a F=>oL underlying45 F rfl rfl X fun a i3 F=>xA 1 F rfl fun a F=>?_);refine xJ (xC (xP (xA 2 F rfl fun a F=>oH cB F rfl rfl rfl fun a F=>oB isAgg2 F rfl rfl (H.b 0 rfl) rfl (fun a F=>?_))));obtain⟨z1,c1,d⟩:=xB d;refine oKI F rfl call79 rfl H (gN z1 c1 _ aA O i2) fun a w H au F=>xA 1 F rfl fun a F=>xJ (qP F rfl (fun a0=>?_) (fun a0=>?_))
 ·
  replace d:=vR a0 d;refine xP (xA 2 F rfl fun a F=>xJ (xT (oE (vV F rfl (oD F rfl) (oD F rfl) ?_))));obtain rfl:=oj d;exact⟨_,rfl,aE,aE,rfl,((((H.nl 1 (vO 1 xH) 25).nl 1 xH 2).s [1,0,2,3] rfl rfl).lw.wk.s [0,1] rfl rfl),(fun _=>rfl)⟩
 replace d:=vQ a0 d;refine xL (xF (xP (xA 1 F rfl fun a F=>oH cB F rfl rfl rfl fun a F=>oB isAgg2 F rfl rfl (H.b 0 rfl) rfl fun a F=>oKI F rfl call79 rfl H (gN z1 c1 _ aA O i2) (fun a w H au F=>?_))));obtain⟨z2,c2,d⟩:=xB d;refine oRM (sz:=1) (R:=kN) (z:=(.bool false)) (bytes:=1) underlying114 (by kernel_rfl) rfl (by decide) (by decide) (fun w=>⟨rfl,rfl⟩) F rfl rfl rfl c2 H fun a w v4 H F=>xA 1 F rfl fun a F=>xJ (xC (xP (oH vW F rfl rfl rfl fun a F=>oB isAgg45 F rfl rfl (H.b 1 rfl) rfl fun a F=>oL underlying45 F rfl rfl X fun a i4 F=>xA 1 F rfl fun a F=>?_)));refine xJ ?_;obtain⟨o1,d,av⟩:=xK d;refine xX (fun a w=>∃ (I:List Bool) (t:Value),o1= .nx I∧Sk a 85 [(0,xG p),(4,vK j),(5,vK n),(8,xG (e.tuples.length:Int)),(9,t)]∧Sep [] B f w [rl 1 kN 4 t I,bx n [xG e.arity,G] 51,bx j [xG x.arity,P] 27]) ?_ ?_
 ·
  refine xW ?_;obtain⟨aw,ax,d⟩:=qE d;refine oU (fun g a w=>∃ (J:Nat) (A:List (List Int)) (Q:List Bool) (T:Value),(J≤e.tuples.length∧e.tuples.drop J=A)∧A.length=g∧qJ aw A J Q=some o1∧Sk a 85 [(34,xG (J:Int)),(0,xG p),(4,vK j),(5,vK n),(8,xG (e.tuples.length:Int)),(9,T),(32,G),(33,xG (e.tuples.length:Int))]∧Sep [] B f w [rl 1 kN 4 T Q,bx n [xG e.arity,G] 51,bx j [xG x.arity,P] 27]) e.tuples.length ?_ ?_
  ·
   exact⟨0,e.tuples,z2,v4,⟨Nat.zero_le _,rfl⟩,rfl,d,F.su,H⟩
  intro g1 a w ⟨J,A,Q,T,h,ay,d,F,H⟩
  cases A with
  | nil=>
   replace d:=qH d;have q1:=qG h.1 h.2;have l1:=vA q1;refine xP (xA 1 F rfl fun a F=>xJ (xC (qT F rfl l1 (oM (oR (oR (vH ?_)))))));refine xF ?_;exact⟨Q,T,(vE d),F.su,H⟩
  | cons x3 A=>
   subst ay;replace h:=oO h.2;have y1:=oZ h.2.1;obtain⟨cg,d,az⟩:=oV d;rw[ax] at d;have l1:=qM h.1;refine xP (xA 1 F rfl fun a F=>xJ (xC (qV F rfl l1 (xL (xF (xC ?_))))));have j1:=fE (Nat.le_of_lt h.1) i4;have m1:=zC h.1 i4;refine xW (xP (oI underlying45 sizeOf25 F rfl rfl rfl X y1 fun a p1 h3 F=>aY isAgg25 F rfl rfl H.sm h3 fun a v7 h4 F=>xA 1 F rfl fun a F=>xJ (xU (xA 2 F rfl fun a F=>?_))));refine xA 1 F rfl fun a F=>?_;obtain⟨z3,c3,d⟩:=xB d;refine oKI F rfl call80 rfl H (impl_indexOf_c z3 c3 _ aA O (H.a h4)) (fun a w H ch F=>?_);obtain⟨z4,c4,d⟩:=xB d;refine oRl underlying114 sizeOf4 F rfl rfl rfl H 0 rfl c4 (fun a p2 h5 b0 F=>?_);have H:=H.lw;refine oS sizeOf4 F rfl rfl rfl H b0 (ix_lt c4) Eo.bool rfl rfl (fun w H=>?_);have H:=H.tl;refine oY (qS (xF (xU (qQ F rfl rfl rfl m1 fun a F=>xA 1 F rfl fun a F=>xJ ?_))));replace d:=qX d az;exact⟨_,Nat.lt_succ_self _,J+1,A,(Q.set (z3).toNat true),T,⟨h.1,h.2.2⟩,rfl,d,F.su,H⟩
 rintro a w ⟨I,t,rfl,F,H⟩
 have d:=xN av;refine xF (xC (xP (xA 1 F rfl fun a F=>oH fa27_0 F rfl rfl rfl fun a F=>oB isAgg2 F rfl rfl (H.b 2 rfl) rfl (fun a F=>?_))));obtain⟨K,c5,d⟩:=xB d;refine oKI F rfl call79 rfl H (gN K c5 _ aA i3 i1) fun a w H ab F=>xA 1 F rfl fun a F=>xJ ?_;obtain⟨o2,d,ac⟩:=xK d;refine xX (fun a w=>o2= .nx ()∧Sk a 85 []∧Sep [] B f w []) ?_ ?_
 ·
  refine xW ?_;obtain⟨b1,b2,d⟩:=zG d;refine oU (fun g a w=>∃ (C:Nat),C+g=K.toNat∧zH b1 g C ()=some o2∧Sk a 85 [(48,xG (C:Int)),(0,xG p),(4,vK j),(5,vK n),(8,xG (e.tuples.length:Int)),(9,t),(47,xG K)]∧Sep [] B f w [rl 1 kN 4 t I,bx n [xG e.arity,G] 51,bx j [xG x.arity,P] 27]) K.toNat ?_ ?_
  ·
   exact⟨0,(Nat.zero_add _),d,F.su,H⟩
  intro g2 a w ⟨C,U,d,F,H⟩
  cases g2 with
  | zero=>
   replace d:=vY d;have l2:=kT U;refine xP (xA 1 F rfl fun a F=>xJ (xC (qT F rfl l2 (oM (oR (oR (vH ?_)))))));refine xF ?_;exact⟨(vE d),F.sub sn,(H.s [] rfl rfl)⟩
  | succ g2=>
   obtain⟨ci,d,ad⟩:=vX d;rw[b2] at d;have l2:=zW U;refine xP (xA 1 F rfl fun a F=>xJ (xC (qV F rfl l2 (xL (xF (xC ?_))))));have j2:=k64I U ab;have m2:=bC U ab;refine xW (xP (xA 2 F rfl fun a F=>qO (oR0 (R:=(vO 1 xH)) underlying45 sizeOf25 F rfl H fun a w v8 H F=>xA 1 F rfl fun a F=>?_)));refine xJ (xC (xP (xA 1 F rfl fun a F=>oH fa27_0 F rfl rfl rfl fun a F=>oB isAgg2 F rfl rfl (H.b 3 rfl) rfl fun a F=>xA 1 F rfl fun a F=>?_)));obtain⟨D,c6,d⟩:=xB d;refine oG F rfl call81 rfl (impl_listOf_c D c6 _ aA i3 i1 j2) (fun a vv w ⟨v9,cj,S⟩ F=>?_);subst vv;have H:=H.r1 S n0;refine oL underlying25 F rfl rfl (H.l 0 rfl) fun a i5 F=>xA 1 F rfl fun a F=>xJ ?_;obtain⟨o3,d,b3⟩:=xK d;refine xX (fun a w=>∃ (s3:List (List Int)) (V:Value),o3= .nx s3∧Sk a 85 [(0,xG p),(4,vK j),(5,vK n),(8,xG (e.tuples.length:Int)),(9,t),(13,V),(47,xG K),(48,xG (C:Int))]∧Sep [] B f w [rw B 1 (vO 1 xH) 25 V s3,rl 1 kN 4 t I,bx n [xG e.arity,G] 51,bx j [xG x.arity,P] 27]) ?_ ?_
   ·
    refine xW ?_;obtain⟨b4,b5,d⟩:=qE d;refine oU (fun g a w=>∃ (M:Nat) (E:List Int) (Y:List (List Int)) (W:Value),(M≤D.length∧D.drop M=E)∧E.length=g∧qJ b4 E M Y=some o3∧Sk a 85 [(58,xG (M:Int)),(0,xG p),(4,vK j),(5,vK n),(8,xG (e.tuples.length:Int)),(9,t),(13,W),(47,xG K),(48,xG (C:Int)),(56,v9),(57,xG (D.length:Int))]∧Sep [] B f w [rl 1 xH 2 v9 D,rw B 1 (vO 1 xH) 25 W Y,rl 1 kN 4 t I,bx n [xG e.arity,G] 51,bx j [xG x.arity,P] 27]) D.length ?_ ?_
    ·
     exact⟨0,D,[],v8,⟨Nat.zero_le _,rfl⟩,rfl,d,F.su,((H.s [1,0,2,3,4] rfl rfl).lw.wk.s [1,0,2,3,4] rfl rfl)⟩
    intro g3 a w ⟨M,E,Y,W,i,b6,d,F,H⟩
    cases E with
    | nil=>
     replace d:=qH d;have q2:=qG i.1 i.2;have l3:=vA q2;refine xP (xA 1 F rfl fun a F=>xJ (xC (qT F rfl l3 (oM (oR (oR (vH ?_)))))));refine xF ?_;exact⟨Y,W,(vE d),F.su,(H.s [1,2,3,4] rfl rfl)⟩
    | cons x4 E=>
     subst b6;replace i:=oO i.2;have y2:=oZ i.2.1;obtain⟨cl,d,b7⟩:=oV d;rw[b5] at d;have l3:=qM i.1;refine xP (xA 1 F rfl fun a F=>xJ (xC (qV F rfl l3 (xL (xF (xC ?_))))));have j3:=fE (Nat.le_of_lt i.1) i5;have m3:=zC i.1 i5;refine xW (xP (oI underlying25 sizeOf2 F rfl rfl rfl (H.l 0 rfl) y2 fun a p3 h6 F=>aN isAgg2 F rfl rfl (Sm.refl _ _) h6 fun a i6 F=>xA 1 F rfl fun a F=>xJ (xU (xA 1 F rfl fun a F=>oH vW F rfl rfl rfl (fun a F=>?_)))));refine oB isAgg45 F rfl rfl (H.b 3 rfl) rfl fun a F=>xA 1 F rfl fun a F=>?_;obtain⟨z7,c7,d⟩:=xB d;refine oI underlying45 sizeOf25 F rfl rfl rfl X c7 fun a p4 h7 F=>aY isAgg25 F rfl rfl H.sm h7 fun a cm h8 F=>oR1 (R:=(vO 1 xH)) (y:=z7) (N1:=B) underlying45 sizeOf25 zeroValue25 rfl rfl F rfl rfl H n1 (Eo.sl (H.u h8)) (fun a w cn H F=>?_);obtain⟨z8,c8,d⟩:=xB d;refine oP (sz:=1) (R:=(vO 1 xH)) (z:=(aE)) (bytes:=24) underlying45 (by kernel_rfl) rfl rfl F rfl rfl rfl (H.s [2,0,1,3,4,5] rfl rfl) c8 fun a w b8 H F=>xA 1 F rfl fun a F=>oY (qS (xF (xU (qQ F rfl rfl rfl m3 fun a F=>xA 1 F rfl fun a F=>xJ ?_))));replace d:=qX d b7;exact⟨_,Nat.lt_succ_self _,M+1,E,z8,b8,⟨i.1,i.2.2⟩,rfl,d,F.su,(H.s [1,0,2,3,4] rfl rfl)⟩
   rintro a w ⟨s3,V,rfl,F,H⟩
   have d:=xN b3;refine xF (xP (xA 1 F rfl fun a F=>fU isAgg27 sizeOf27 F rfl rfl (H.b 3 rfl) rfl rfl fun a F=>xA 1 F rfl fun a F=>?_));obtain⟨z9,c9,d⟩:=xB d;refine oG F rfl call82 rfl (impl_made_c z9 c9 _ aA O (cS.m i1 (H.a h1)) (H.r 0 rfl)) (fun a vv w ⟨b9,co,S⟩ F=>?_);subst vv;have H:=H.r1 S n0;refine xA 1 F rfl fun a F=>qO (xA 3 F rfl fun a F=>?_);obtain⟨ba,bb,d⟩:=xB d;refine oKI F rfl call80 rfl H (impl_indexOf_c ba bb _ aA O (H.l 0 rfl)) (fun a w H cp F=>?_);obtain⟨cq,bc,d⟩:=xB d;refine oI underlying114 sizeOf4 F rfl rfl rfl (H.l 2 rfl) bc fun a p5 h9 F=>olB isAgg4 F rfl rfl (Sm.refl _ _) h9 fun a F=>xA 1 F rfl fun a F=>xJ (qP F rfl (fun a1=>?_) (fun a1=>?_))
   ·
    replace d:=vR a1 d;refine xP (xA 4 F rfl fun a F=>xJ (xT ?_));obtain⟨cr,bd,d⟩:=xB d;refine vJ (oE (oE ?_));replace d:=zR d ad;refine vJ (oE ?_);replace d:=zQ d ac;refine oE (vV F rfl (oD F rfl) (oD F rfl) ?_);obtain rfl:=oj d;exact⟨_,rfl,V,b9,rfl,(H.s [1,0] rfl rfl),(nev_z bd)⟩
   replace d:=vQ a1 d;refine xL (qS (xF (xU (qQ F rfl rfl rfl m2 fun a F=>xA 1 F rfl fun a F=>xJ ?_))));replace d:=qX d ad;exact⟨_,Nat.lt_succ_self _,C+1,(by omega),d,F.su,(H.s [2,3,4] rfl rfl)⟩
 rintro a w ⟨rfl,F,H⟩
 have d:=xN ac;refine xF (xP (xA 2 F rfl fun a F=>xJ (xT (vV F rfl (oD F rfl) (oD F rfl) ?_))));obtain rfl:=oj d;exact⟨_,rfl,aE,aE,rfl,(((H.nl 1 (vO 1 xH) 25).nl 1 xH 2).s [1,0] rfl rfl).lw.wk,(fun _=>rfl)⟩
def impl_keeps (N:Nat) (e:Int) (c:Op) (d:Rel):Option Bool:=
 xY (impl_broken N e (Op.mk c.arity c.table) (Rel.mk d.arity d.tuples)) fun f=>
 some f.2.isEmpty
theorem impl_keeps_c {B:Nat→Prop} {N:Nat} {e:Int} {j:Op} {n:Rel} (r:Bool) (f:impl_keeps N e j n=some r) {h:Value} {i:Value} (d:World) (x:∀ c,B c→c<d.heap.size) (t:xZ e) (y:Bo B d (zX 2 cS) h j) (z:Bo B d (zX 2 qD) i n):Calls Tryz.prog 78 #[xG e,h,i] d (zO (.bool r) d):=by
 unfold impl_keeps at f
 refine xV (L:=[(0,xG e),(1,h),(2,i)]) func78 rfl rfl rfl (sc rfl (sc rfl (sc rfl sn))) (fun a F=>?_);have H:=Sep.start x;refine xP ?_;obtain⟨O,rfl,A,C⟩:=cS.o y;refine oX F rfl rfl rfl H (fun a w P H F=>?_);obtain⟨K,rfl,D,E⟩:=qD.o z;refine oX F rfl rfl rfl H fun a w Q H F=>xA 1 F rfl fun a F=>qO (xA 1 F rfl fun a F=>fU isAgg27 sizeOf27 F rfl rfl (H.b 1 rfl) rfl rfl fun a F=>fU isAgg51 sizeOf51 F rfl rfl (H.b 0 rfl) rfl rfl (fun a F=>?_));obtain⟨G,I,f⟩:=xB f;refine oG F rfl call40 rfl (impl_broken_c G I _ H.hN t (cS.m A (H.u C)) (qD.m D (H.u E))) (fun a J w ⟨R,T,M,S,p⟩ F=>?_);subst J;have H:=H.rk S ⟨n1,⟨n0,trivial⟩⟩ rfl;refine xA 5 F rfl fun a F=>qO (xA 1 F rfl fun a F=>oEz underlying25 F rfl rfl rfl (H.l 1 rfl) p (fun a F=>?_));refine xA 1 F rfl fun a F=>xJ (xT (xS F rfl (oD F rfl) ?_));obtain rfl:=oj f;exact⟨rfl,H.bl⟩
def iE (N:Nat) (c:Rel) (d:Template) (e:Op):Option Bool:=
 xY (impl_keeps N d.size e (Rel.mk c.arity c.tuples)) fun f=>
 some ((!f))
theorem impl_firstBroken_1_c {B:Nat→Prop} {N:Nat} {j:Rel} {n:Template} {p:Op} (r:Bool) (e:iE N j n p=some r) {f:Value} {h:Value} {i:Value} (d:World) (x:∀ c,B c→c<d.heap.size) (y:Bo B d (zX 2 qD) f j) (z:Bo B d (Pt 2 xI) h n) (A:Bo B d (Pt 2 cS) i p):Calls Tryz.prog 77 #[f,h,i] d (zO (.bool r) d):=by
 unfold iE at e
 refine xV (L:=[(0,f),(1,h),(2,i)]) func77 rfl rfl rfl (sc rfl (sc rfl (sc rfl sn))) (fun a F=>?_);have H:=Sep.start x;refine xP ?_;obtain⟨K,rfl,C,D⟩:=qD.o y;refine oX F rfl rfl rfl H fun a w M H F=>xA 1 F rfl fun a F=>qO (oF (s':=1) dA F rfl rfl z xI.f0 fun a O t F=>aN isAgg2 F rfl rfl H.sm t fun a E F=>olA isAgg27 sizeOf27 F rfl rfl H.sm A fun a P G F=>fU isAgg51 sizeOf51 F rfl rfl (H.b 0 rfl) rfl rfl (fun a F=>?_));obtain⟨I,J,e⟩:=xB e;refine oK F rfl call78 rfl H (impl_keeps_c I J _ aA E (H.a G) (qD.m C (H.a D))) fun a w H F=>xA 2 F rfl fun a F=>xJ (xT (xS F rfl (oD F rfl) ?_));obtain rfl:=oj e;exact⟨rfl,H.bl⟩
def gM (N:Nat) (c:Template) (d:Op):Option Int:=
 xY (kY c.rels (fun e=>iE N e (Template.mk c.size c.rels) (Op.mk d.arity d.table))) fun f=>
 some f
theorem impl_firstBroken_c {B:Nat→Prop} {N:Nat} {j:Template} {n:Op} (r:Int) (e:gM N j n=some r) {f:Value} {i:Value} (d:World) (y:∀ c,B c→c<d.heap.size) (z:Bo B d (zX 2 xI) f j) (A:Bo B d (zX 2 cS) i n):Calls Tryz.prog 39 #[f,i] d (dW r d):=by
 unfold gM at e
 refine xV (L:=[(0,f),(1,i)]) func39 rfl rfl rfl (sc rfl (sc rfl sn)) (fun a F=>?_);have H:=Sep.start y;refine xP ?_;obtain⟨K,rfl,C,p⟩:=xI.o z;refine oX F rfl rfl rfl H (fun a w M H F=>?_);obtain⟨J,rfl,D,E⟩:=cS.o A;refine oX F rfl rfl rfl H fun a w O H F=>xA 1 F rfl fun a F=>qO (oH kR F rfl rfl rfl fun a F=>oB isAgg29 F rfl rfl (H.b 1 rfl) rfl fun a F=>iW F rfl rfl rfl (fun a F=>?_));obtain⟨G,I,e⟩:=xB e;refine oKI F rfl call76 rfl H (fI G I _ aA (H.a p) call77 (fun P r h W t Q f0=>impl_firstBroken_1_c r h W aA f0 ((xI.b (H.g 1 rfl).bk C (H.a p)).w t) ((cS.b (H.g 0 rfl).bk D (H.a E)).w t))) fun a w H x F=>xA 1 F rfl fun a F=>xJ (xT (xS F rfl (oD F rfl) ?_));obtain rfl:=oj e;exact⟨⟨rfl,H.bl⟩,x⟩
def dL (N:Nat) (c:Template) (d:Op):Option Bool:=
 xY (gM N (Template.mk c.size c.rels) (Op.mk d.arity d.table)) fun e=>
 some ((decide (e<0)))
theorem gW {B:Nat→Prop} {N:Nat} {i:Template} {j:Op} (r:Bool) (e:dL N i j=some r) {f:Value} {h:Value} (d:World) (n:∀ c,B c→c<d.heap.size) (p:Bo B d (zX 2 xI) f i) (t:Bo B d (zX 2 cS) h j):Calls Tryz.prog 35 #[f,h] d (zO (.bool r) d):=by
 unfold dL at e
 refine xV (L:=[(0,f),(1,h)]) func35 rfl rfl rfl (sc rfl (sc rfl sn)) (fun a F=>?_);have H:=Sep.start n;refine xP ?_;obtain⟨I,rfl,x,y⟩:=xI.o p;refine oX F rfl rfl rfl H (fun a w J H F=>?_);obtain⟨E,rfl,z,A⟩:=cS.o t;refine oX F rfl rfl rfl H fun a w K H F=>xA 1 F rfl fun a F=>qO (fU isAgg31 sizeOf31 F rfl rfl (H.b 1 rfl) rfl rfl fun a F=>fU isAgg27 sizeOf27 F rfl rfl (H.b 0 rfl) rfl rfl (fun a F=>?_));obtain⟨C,D,e⟩:=xB e;refine oKI F rfl call39 rfl H (impl_firstBroken_c C D _ aA (xI.m x (H.a y)) (cS.m z (H.a A))) fun a w H G F=>xA 2 F rfl fun a F=>xJ (xT (xS F rfl (oD F rfl) ?_));obtain rfl:=oj e;exact⟨rfl,H.bl⟩
def gK (c:Rel):Option Bool:=
 some (((c.tuples.length:Int)==0))
theorem impl_hasNone_c {B:Nat→Prop} {f:Rel} (r:Bool) (h:gK f=some r) {e:Value} (d:World) (i:∀ c,B c→c<d.heap.size) (j:Bo B d (zX 2 qD) e f):Calls Tryz.prog 50 #[e] d (zO (.bool r) d):=by
 unfold gK at h
 refine xV (L:=[(0,e)]) func50 rfl rfl rfl (sc rfl sn) (fun a F=>?_);have H:=Sep.start i;refine xP ?_;obtain⟨p,rfl,t,n⟩:=qD.o j;refine oX F rfl rfl rfl H fun a w x H F=>xA 1 F rfl fun a F=>qO (oH vW F rfl rfl rfl fun a F=>oB isAgg45 F rfl rfl (H.b 0 rfl) rfl fun a F=>oL underlying45 F rfl rfl n fun a y F=>xA 2 F rfl fun a F=>?_);refine xJ (xT (xS F rfl (oD F rfl) ?_));obtain rfl:=oj h;exact⟨rfl,H.bl⟩
def iN (c d:Int):Option (List Int):=
 vT (σ:=(List Int)) (
  zH (σ:=(List Int)) (ρ:=(List Int)) (fun (e:Nat) (f:(List Int))=>
   xY (ck (c+(e:Int))) fun h=>
   xY (ap f ([h])) fun i=>
   some (.go i)) d.toNat 0 []) fun j=>
 some j
theorem impl_upTo_c {B:Nat→Prop} {f e:Int} (r:(List Int)) (d:iN f e=some r)  (h:World) (O:∀ c,B c→c<h.heap.size) (W:xZ f) (C:xZ e):Calls Tryz.prog 102 #[xG f,xG e] h (Gv (fun v w'=>∃ (D:Value),v=D∧Sep [] B h w' [rl 1 xH 2 D r])):=by
 unfold iN at d
 refine xV (L:=[(0,xG f),(1,xG e)]) func102 rfl rfl rfl (sc rfl (sc rfl sn)) (fun a F=>?_);have H:=Sep.start O;refine xP (xA 1 F rfl fun a F=>qO (oR0 (R:=xH) underlying25 sizeOf2 F rfl H fun a w P H F=>xA 1 F rfl fun a F=>xJ ?_));refine xC (xP (xA 2 F rfl fun a F=>xJ ?_));obtain⟨E,d,J⟩:=xK d;refine xX (fun a w=>∃ (x:List Int) (p:Value),E= .nx x∧Sk a 20 [(5,p)]∧Sep [] B h w [rl 1 xH 2 p x]) ?_ ?_
 ·
  refine xW ?_;obtain⟨K,M,d⟩:=zG d;refine oU (fun g a w=>∃ (i:Nat) (t:List Int) (j:Value),i+g=e.toNat∧zH K g i t=some E∧Sk a 20 [(9,xG (i:Int)),(0,xG f),(5,j),(8,xG e)]∧Sep [] B h w [rl 1 xH 2 j t]) e.toNat ?_ ?_
  ·
   exact⟨0,[],P,(Nat.zero_add _),d,F.su,H⟩
  intro G a w ⟨i,t,j,n,d,F,H⟩
  cases G with
  | zero=>
   replace d:=vY d;have A:=kT n;refine xP (xA 1 F rfl fun a F=>xJ (xC (qT F rfl A (oM (oR (oR (vH ?_)))))));refine xF ?_;exact⟨t,j,(vE d),F.su,H⟩
  | succ G=>
   obtain⟨X,d,N⟩:=vX d;rw[M] at d;have A:=zW n;refine xP (xA 1 F rfl fun a F=>xJ (xC (qV F rfl A (xL (xF (xC ?_))))));have Y:=k64I n C;have Q:=bC n C;refine xW (xP (xA 2 F rfl fun a F=>xJ (xU (xA 3 F rfl fun a F=>?_))));obtain⟨S,I,d⟩:=xB d;refine kI F rfl rfl rfl I fun a F=>oR1z (R:=xH) (y:=S) underlying25 sizeOf2 zeroValue2 rfl rfl F rfl rfl H (Eo.int (kG I)) (fun a w Z H F=>?_);obtain⟨T,U,d⟩:=xB d;refine oPL (sz:=1) (R:=xH) (z:=(xG 0)) (bytes:=8) underlying25 (by kernel_rfl) rfl rfl F rfl rfl rfl (H.s [1,0] rfl rfl) U fun a w V H F=>xA 1 F rfl fun a F=>oY (qS (xF (xU (qQ F rfl rfl rfl Q fun a F=>xA 1 F rfl fun a F=>xJ ?_))));replace d:=qX d N;exact⟨_,Nat.lt_succ_self _,i+1,T,V,(by omega),d,F.su,H⟩
 rintro a w ⟨x,p,rfl,F,H⟩
 have d:=xN J;refine xF (xP (xA 2 F rfl fun a F=>xJ (xT (xS F rfl (oD F rfl) ?_))));obtain rfl:=oj d;exact⟨_,rfl,p,rfl,H⟩
def cO (c:Template) (d:Instance):Option (List (List Int)):=
 vT (σ:=(List (List Int))) (
  zH (σ:=(List (List Int))) (ρ:=(List (List Int))) (fun(j:Nat) (e:(List (List Int)))=>
   xY (iN 0 c.size) fun f=>
   xY (ap e ([f])) fun h=>
   some (.go h)) d.vars.toNat 0 []) fun i=>
 some i
theorem impl_fullDomains_c {B:Nat→Prop} {t:Template} {f:Instance} (r:(List (List Int))) (d:cO t f=some r) {x:Value} {A:Value} (e:World) (T:∀ c,B c→c<e.heap.size) (U:Bo B e (zX 2 xI) x t) (V:Bo B e (zX 2 xO) A f):Calls Tryz.prog 95 #[x,A] e (Gv (fun v w'=>∃ (E:Value),v=E∧Sep [] B e w' [rl 1 (vO 1 xH) 25 E r])):=by
 unfold cO at d
 refine xV (L:=[(0,x),(1,A)]) func95 rfl rfl rfl (sc rfl (sc rfl sn)) (fun a F=>?_);have H:=Sep.start T;refine xP ?_;obtain⟨W,rfl,X,h1⟩:=xI.o U;refine oX F rfl rfl rfl H (fun a w G H F=>?_);obtain⟨a5,rfl,I,h2⟩:=xO.o V;refine oX F rfl rfl rfl H fun a w b2 H F=>xA 1 F rfl fun a F=>qO (oR0 (R:=(vO 1 xH)) underlying45 sizeOf25 F rfl H fun a w Y H F=>xA 1 F rfl fun a F=>xJ (xC ?_));refine xP (oH kD F rfl rfl rfl fun a F=>oB isAgg2 F rfl rfl (H.b 1 rfl) rfl fun a F=>xA 1 F rfl fun a F=>xJ ?_);obtain⟨J,d,N⟩:=xK d;refine xX (fun a w=>∃ (C:List (List Int)) (j:Value),J= .nx C∧Sk a 19 [(5,j)]∧Sep [] B e w [rl 1 (vO 1 xH) 25 j C]) ?_ ?_
 ·
  refine xW ?_;obtain⟨O,P,d⟩:=zG d;refine oU (fun g a w=>∃ (h:Nat) (n:List (List Int)) (p:Value),h+g=f.vars.toNat∧zH O g h n=some J∧Sk a 19 [(9,xG (h:Int)),(2,vK G),(5,p),(8,xG f.vars)]∧Sep [] B e w [rl 1 (vO 1 xH) 25 p n,bx G [xG t.size,W] 31]) f.vars.toNat ?_ ?_
  ·
   exact⟨0,[],Y,(Nat.zero_add _),d,F.su,(H.s [0,2] rfl rfl)⟩
  intro K a w ⟨h,n,p,i,d,F,H⟩
  cases K with
  | zero=>
   replace d:=vY d;have D:=kT i;refine xP (xA 1 F rfl fun a F=>xJ (xC (qT F rfl D (oM (oR (oR (vH ?_)))))));refine xF ?_;exact⟨n,p,(vE d),F.su,(H.s [0] rfl rfl)⟩
  | succ K=>
   obtain⟨a6,d,Q⟩:=vX d;rw[P] at d;have D:=zW i;refine xP (xA 1 F rfl fun a F=>xJ (xC (qV F rfl D (xL (xF (xC ?_))))));have j1:=k64I i I;have Z:=bC i I;refine xW (xU (xA 1 F rfl fun a F=>oH dA F rfl rfl rfl fun a F=>oB isAgg2 F rfl rfl (H.b 1 rfl) rfl (fun a F=>?_)));obtain⟨M,c1,d⟩:=xB d;refine oG F rfl call102 rfl (impl_upTo_c M c1 _ aA (show xZ (0) by decide) X) (fun a vv w ⟨v6,a7,S⟩ F=>?_);subst vv;have H:=H.r1 S n0;have H:=H.os;refine oR1L (R:=(vO 1 xH)) (y:=M) underlying45 sizeOf25 zeroValue25 rfl rfl F rfl rfl H El.sl (fun a w v7 H F=>?_);obtain⟨z2,c2,d⟩:=xB d;refine oPL (sz:=1) (R:=(vO 1 xH)) (z:=(aE)) (bytes:=24) underlying45 (by kernel_rfl) rfl rfl F rfl rfl rfl (H.s [1,0,2] rfl rfl) c2 fun a w v8 H F=>xA 1 F rfl fun a F=>oY (qS (xF (xU (qQ F rfl rfl rfl Z fun a F=>xA 1 F rfl fun a F=>xJ ?_))));replace d:=qX d Q;exact⟨_,Nat.lt_succ_self _,h+1,z2,v8,(by omega),d,F.su,H⟩
 rintro a w ⟨C,j,rfl,F,H⟩
 have d:=xN N;refine xF (xP (xA 2 F rfl fun a F=>xJ (xT (xS F rfl (oD F rfl) ?_))));obtain rfl:=oj d;exact⟨_,rfl,j,rfl,H⟩
def dH (c:Con) (d:List Int):Option Bool:=
 vT (σ:=Unit) (
  qJ (σ:=Unit) (ρ:=Bool) (fun (e:Nat) (h:Int) (s:Unit)=>
    match s with
    | _=>
    vT (σ:=Unit) (
     zH (σ:=Unit) (ρ:=(Ctl (Unit) Bool)) (fun (f:Nat) (s:Unit)=>
       match s with
       | _=>
       vT (σ:=Bool) (
        xY (ix c.scope (f:Int)) fun i=>
        if (i==h) then  xY (ix d (f:Int)) fun j=>
         xY (ix d (e:Int)) fun n=>
         some (.nx (j != n)) else  some (.nx false)) fun p=>
       if p then
        some (.ret (.ret false))
       else
        some (.go ())) (e:Int).toNat 0 ()) fun _=>
    some (.go ())) c.scope 0 ()) fun _=>
 some true
theorem impl_Con_agrees_c {B:Nat→Prop} {f:Con} {P:List Int} (r:Bool) (d:dH f P=some r) {C:Value} {p:Value} (i:World) (hN:∀ c,B c→c<i.heap.size) (A0:Bo B i (zX 2 vU) C f) (Q:Bo B i (Sl 1 xH) p P):Calls Tryz.prog 153 #[C,p] i (zO (.bool r) i):=by
 unfold dH at d
 refine xV (L:=[(0,C),(1,p)]) func153 rfl rfl rfl (sc rfl (sc rfl sn)) (fun a F=>?_);have H:=Sep.start hN;refine xP ?_;obtain⟨j,rfl,i1,D⟩:=vU.o A0;refine oX F rfl rfl rfl H fun a w n H F=>xA 1 F rfl fun a F=>xJ (xC (xP (oH zV F rfl rfl rfl fun a F=>oB isAgg25 F rfl rfl (H.b 0 rfl) rfl fun a F=>oL underlying25 F rfl rfl D fun a R F=>xA 1 F rfl fun a F=>?_)));refine xJ ?_;obtain⟨S,d,K⟩:=xK d;refine xX (fun a w=>S= .nx ()∧Sk a 40 []∧Sep [] B i w []) ?_ ?_
 ·
  refine xW ?_;obtain⟨W,X,d⟩:=qE d;refine oU (fun g a w=>∃ (e:Nat) (t:List Int),(e≤f.scope.length∧f.scope.drop e=t)∧t.length=g∧qJ W t e ()=some S∧Sk a 40 [(11,xG (e:Int)),(1,p),(2,vK n),(9,j),(10,xG (f.scope.length:Int))]∧Sep [] B i w [bx n [xG f.rel,j] 119]) f.scope.length ?_ ?_
  ·
   exact⟨0,f.scope,⟨Nat.zero_le _,rfl⟩,rfl,d,F.su,H⟩
  intro g1 a w ⟨e,t,h,Y,d,F,H⟩
  cases t with
  | nil=>
   replace d:=qH d;have q1:=qG h.1 h.2;have E:=vA q1;refine xP (xA 1 F rfl fun a F=>xJ (xC (qT F rfl E (oM (oR (oR (vH ?_)))))));refine xF ?_;exact⟨(vE d),F.sub sn,(H.s [] rfl rfl)⟩
  | cons G t=>
   subst Y;replace h:=oO h.2;have y1:=oZ h.2.1;obtain⟨aj,d,M⟩:=oV d;rw[X] at d;have E:=qM h.1;refine xP (xA 1 F rfl fun a F=>xJ (xC (qV F rfl E (xL (xF (xC ?_))))));have T:=fE (Nat.le_of_lt h.1) R;have m1:=zC h.1 R;refine xW (xP (xA 1 F rfl fun a F=>oI underlying25 sizeOf2 F rfl rfl rfl D y1 fun a p1 h2 F=>aN isAgg2 F rfl rfl H.sm h2 fun a i3 F=>xA 2 F rfl fun a F=>xJ (xC ?_)));refine xU (xA 2 F rfl fun a F=>xJ ?_);obtain⟨U,d,N⟩:=xK d;refine xX (fun a w=>U= .nx ()∧Sk a 40 [(1,p),(2,vK n),(9,j),(10,xG (f.scope.length:Int)),(11,xG (e:Int))]∧Sep [] B i w [bx n [xG f.rel,j] 119]) ?_ ?_
   ·
    refine xW ?_;obtain⟨Z,a0,d⟩:=zG d;refine oU (fun g a w=>∃ (x:Nat),x+g=(e:Int).toNat∧zH Z g x ()=some U∧Sk a 40 [(17,xG (x:Int)),(1,p),(2,vK n),(5,xG (e:Int)),(6,xG G),(9,j),(10,xG (f.scope.length:Int)),(11,xG (e:Int)),(16,xG (e:Int))]∧Sep [] B i w [bx n [xG f.rel,j] 119]) (e:Int).toNat ?_ ?_
    ·
     exact⟨0,(Nat.zero_add _),d,F.su,H⟩
    intro V a w ⟨x,z,d,F,H⟩
    cases V with
    | zero=>
     replace d:=vY d;have I:=kT z;refine xP (xA 1 F rfl fun a F=>xJ (xC (qT F rfl I (oM (oR (oR (vH ?_)))))));refine xF ?_;exact⟨(vE d),F.su,H⟩
    | succ V=>
     obtain⟨ak,d,O⟩:=vX d;rw[a0] at d;have I:=zW z;refine xP (xA 1 F rfl fun a F=>xJ (xC (qV F rfl I (xL (xF (xC ?_))))));have j2:=k64I z T;have m2:=bC z T;refine xW (xP (xA 2 F rfl fun a F=>xJ (xC ?_)));obtain⟨o3,d,a1⟩:=xK d;refine xX (fun a w=>∃ (J:Bool),o3= .nx J∧Sk a 40 [(1,p),(2,vK n),(5,xG (e:Int)),(6,xG G),(9,j),(10,xG (f.scope.length:Int)),(11,xG (e:Int)),(16,xG (e:Int)),(17,xG (x:Int)),(37,.bool J)]∧Sep [] B i w [bx n [xG f.rel,j] 119]) ?_ ?_
     ·
      refine xQ H (by kernel_rfl) (by kernel_rfl) (xR F rfl (fun w l=>vG zV F rfl rfl) fun a F=>qB isAgg25 F rfl rfl (H.qb 0 rfl) rfl fun a F=>xR F rfl (fun w l=>xM F rfl) (fun a F=>?_));obtain⟨z1,c1,d⟩:=xB d;refine qI underlying25 sizeOf2 F rfl rfl rfl D c1 fun a p2 h3 F=>iB isAgg2 F rfl rfl H.q h3 fun a i4 F=>xR F rfl (fun w l=>xM F rfl) fun a F=>xR F rfl (fun w l=>r_eql F rfl rfl) fun a F=>xR F rfl (fun w l=>xM F rfl) (fun a F=>?_)
      rcases qU (z1==G) with y | y
      ·
       replace d:=vR y d;have F:=F.eb 27 rfl y;refine xR F rfl (fun w l=>xM F rfl) fun a F=>xR F rfl (fun w l=>xM F rfl) (fun a F=>?_);obtain⟨z2,c2,d⟩:=xB d;refine qI underlying25 sizeOf2 F rfl rfl rfl Q c2 fun a p3 h4 F=>iB isAgg2 F rfl rfl H.q h4 fun a i5 F=>xR F rfl (fun w l=>xM F rfl) fun a F=>xR F rfl (fun w l=>xM F rfl) (fun a F=>?_);obtain⟨z3,c3,d⟩:=xB d;refine qI underlying25 sizeOf2 F rfl rfl rfl Q c3 fun a p4 h5 F=>iB isAgg2 F rfl rfl H.q h5 fun a i6 F=>xR F rfl (fun w l=>r_neq F rfl rfl) fun a F=>xR F rfl (fun w l=>aU F rfl rfl) fun a F=>kA fun w H=>xF ?_;exact⟨(z2 != z3),(vE d),F.su,H⟩
      replace d:=vQ y d;have F:=F.eb 27 rfl y;refine qK F rfl rfl fun a F=>qK F rfl rfl fun a F=>qK F rfl rfl fun a F=>qK F rfl rfl fun a F=>qK F rfl rfl fun a F=>qK F rfl rfl fun a F=>qK F rfl rfl fun a F=>qK F rfl rfl fun a F=>qK F rfl rfl fun a F=>xR F rfl (fun w l=>aF F rfl rfl) fun a F=>kA (fun w H=>?_);refine xF ?_;exact⟨false,(vE d),F.su,H⟩
     rintro a w ⟨J,rfl,F,H⟩
     have d:=xN a1;refine xF (qP F rfl (fun A=>?_) (fun A=>?_))
     ·
      replace d:=vR A d;refine xP (xA 1 F rfl fun a F=>xJ (xT (vJ (oE (oE ?_)))));replace d:=zR d O;refine vJ (oE ?_);replace d:=zQ d N;refine vJ (oE (oE ?_));replace d:=zR d M;refine vJ (oE ?_);replace d:=zQ d K;refine oE (xS F rfl (oD F rfl) ?_);obtain rfl:=oj d;exact⟨rfl,H.bl⟩
     replace d:=vQ A d;refine xL (qS (xF (xU (qQ F rfl rfl rfl m2 fun a F=>xA 1 F rfl fun a F=>xJ ?_))));replace d:=qX d O;exact⟨_,Nat.lt_succ_self _,x+1,(by omega),d,F.su,H⟩
   rintro a w ⟨rfl,F,H⟩
   have d:=xN N;refine qS (xF (xU (qQ F rfl rfl rfl m1 fun a F=>xA 1 F rfl fun a F=>xJ ?_)));replace d:=qX d M;exact⟨_,Nat.lt_succ_self _,e+1,t,⟨h.1,h.2.2⟩,rfl,d,F.su,H⟩
 rintro a w ⟨rfl,F,H⟩
 have d:=xN K;refine xF (xP (xA 1 F rfl fun a F=>xJ (xT (xS F rfl (oD F rfl) ?_))));obtain rfl:=oj d;exact⟨rfl,H.bl⟩
def zN (c:List Int) (d:Int):Option Int:=
 vT (σ:=Unit) (
  qJ (σ:=Unit) (ρ:=Int) (fun (e:Nat) (f:Int) (s:Unit)=>
    match s with
    | _=>
    if (d==f) then
     some (.ret ((e:Int)))
    else
     some (.go ())) c 0 ()) fun _=>
 some ((-1))
theorem fG {B:Nat→Prop} {f:List Int} {n:Int} (r:Int) (d:zN f n=some r) {p:Value} (i:World) (J:∀ c,B c→c<i.heap.size) (C:Bo B i (Sl 1 xH) p f) (Q:xZ n):Calls Tryz.prog 106 #[p,xG n] i (dW r i):=by
 unfold zN at d
 refine xV (L:=[(0,p),(1,xG n)]) func106 rfl rfl rfl (sc rfl (sc rfl sn)) (fun a F=>?_);have H:=Sep.start J;refine xP (xA 1 F rfl fun a F=>xJ (xC (xP (xA 1 F rfl fun a F=>oL underlying25 F rfl rfl C fun a D F=>xA 1 F rfl fun a F=>?_))));refine xJ ?_;obtain⟨y,d,z⟩:=xK d;refine xX (fun a w=>y= .nx ()∧Sk a 19 []∧Sep [] B i w []) ?_ ?_
 ·
  refine xW ?_;obtain⟨E,G,d⟩:=qE d;refine oU (fun g a w=>∃ (j:Nat) (h:List Int),(j≤f.length∧f.drop j=h)∧h.length=g∧qJ E h j ()=some y∧Sk a 19 [(8,xG (j:Int)),(0,p),(1,xG n),(7,xG (f.length:Int))]∧Sep [] B i w []) f.length ?_ ?_
  ·
   exact⟨0,f,⟨Nat.zero_le _,rfl⟩,rfl,d,F.su,H⟩
  intro S a w ⟨j,h,e,I,d,F,H⟩
  cases h with
  | nil=>
   replace d:=qH d;have K:=qG e.1 e.2;have x:=vA K;refine xP (xA 1 F rfl fun a F=>xJ (xC (qT F rfl x (oM (oR (oR (vH ?_)))))));refine xF ?_;exact⟨(vE d),F.sub sn,H⟩
  | cons T h=>
   subst I;replace e:=oO e.2;have M:=oZ e.2.1;obtain⟨R,d,A⟩:=oV d;rw[G] at d;have x:=qM e.1;refine xP (xA 1 F rfl fun a F=>xJ (xC (qV F rfl x (xL (xF (xC ?_))))));have N:=fE (Nat.le_of_lt e.1) D;have O:=zC e.1 D;refine xW (xP (xA 2 F rfl fun a F=>qO (xA 2 F rfl fun a F=>?_)));refine xA 1 F rfl fun a F=>oI underlying25 sizeOf2 F rfl rfl rfl C M fun a U P F=>aN isAgg2 F rfl rfl H.sm P fun a V F=>xA 1 F rfl fun a F=>xJ (qP F rfl (fun t=>?_) (fun t=>?_))
   ·
    replace d:=vR t d;refine xP (xA 2 F rfl fun a F=>xJ (xT (vJ (oE (oE ?_)))));replace d:=zR d A;refine vJ (oE ?_);replace d:=zQ d z;refine oE (xS F rfl (oD F rfl) ?_);obtain rfl:=oj d;exact⟨⟨rfl,H.bl⟩,N⟩
   replace d:=vQ t d;refine xL (qS (xF (xU (qQ F rfl rfl rfl O fun a F=>xA 1 F rfl fun a F=>xJ ?_))));replace d:=qX d A;exact⟨_,Nat.lt_succ_self _,j+1,h,⟨e.1,e.2.2⟩,rfl,d,F.su,H⟩
 rintro a w ⟨rfl,F,H⟩
 have d:=xN z;refine xF (xP (xA 1 F rfl fun a F=>xJ (xT (xS F rfl (oD F rfl) ?_))));obtain rfl:=oj d;exact⟨⟨rfl,H.bl⟩,(show xZ (-1) by decide)⟩
def vZ (c:List Int) (d:Int):Option Bool:=
 xY (zN c d) fun e=>
 some ((decide (0≤e)))
theorem bD {B:Nat→Prop} {i:List Int} {d:Int} (r:Bool) (e:vZ i d=some r) {h:Value} (f:World) (n:∀ c,B c→c<f.heap.size) (p:Bo B f (Sl 1 xH) h i) (j:xZ d):Calls Tryz.prog 154 #[h,xG d] f (zO (.bool r) f):=by
 unfold vZ at e
 refine xV (L:=[(0,h),(1,xG d)]) func154 rfl rfl rfl (sc rfl (sc rfl sn)) (fun a F=>?_);have H:=Sep.start n;refine xP (xA 1 F rfl fun a F=>qO (xA 2 F rfl fun a F=>?_));obtain⟨t,x,e⟩:=xB e;refine oKI F rfl call106 rfl H (fG t x _ aA (H.a p) j) fun a w H y F=>xA 2 F rfl fun a F=>xJ (xT (xS F rfl (oD F rfl) ?_));obtain rfl:=oj e;exact⟨rfl,H.bl⟩
def dS (c:List Int) (e f:Int) (d:Con) (h:(List (List Int))):Option Bool:=
 vT (σ:=Bool) (
  xY (ix c e) fun i=>
  if (i != f) then  some (.nx true) else  xY (dH d c) fun j=>
   some (.nx (!j))) fun n=>
 if n then
  some false
 else
  vT (σ:=Unit) (
   qJ (σ:=Unit) (ρ:=Bool) (fun (p:Nat) (t:Int) (s:Unit)=>
     match s with
     | _=>
     xY (ix h t) fun x=>
     xY (ix c (p:Int)) fun y=>
     xY (vZ x y) fun z=>
     if (!z) then
      some (.ret false)
     else
      some (.go ())) d.scope 0 ()) fun _=>
  some true
theorem impl_hasSupport_1_c {B:Nat→Prop} {O:List Int} {P C:Int} {i:Con} {Q:(List (List Int))} (r:Bool) (d:dS O P C i Q=some r) {t:Value} {D:Value} {E:Value} {y:Value} {x:Value} (e:World) (Z:∀ c,B c→c<e.heap.size) (G:Bo B e (Sl 1 xH) t O) (A1:Bo B e (Pt 1 xH) D P) (A2:Bo B e (Pt 1 xH) E C) (R:Bo B e (Pt 2 vU) y i) (A4:Bo B e (Pt 1 (vO 1 (vO 1 xH))) x Q):Calls Tryz.prog 152 #[t,D,E,y,x] e (zO (.bool r) e):=by
 unfold dS at d
 refine xV (L:=[(0,t),(1,D),(2,E),(3,y),(4,x)]) func152 rfl rfl rfl (sc rfl (sc rfl (sc rfl (sc rfl (sc rfl sn))))) (fun a F=>?_);have H:=Sep.start Z;refine xP (xA 1 F rfl fun a F=>xJ (xC (xC ?_)));obtain⟨o1,d,V⟩:=xK d;refine xX (fun a w=>∃ (I:Bool),o1= .nx I∧Sk a 40 [(0,t),(3,y),(4,x),(20,.bool I)]∧Sep [] B e w []) ?_ ?_
 ·
  refine xQ H (by kernel_rfl) (by kernel_rfl) (xR F rfl (fun w l=>xM F rfl) fun a F=>iB isAgg3 F rfl rfl H.q A1 (fun a i1 F=>?_));obtain⟨z1,c1,d⟩:=xB d;refine qI underlying25 sizeOf2 F rfl rfl rfl G c1 fun a p1 h1 F=>iB isAgg2 F rfl rfl H.q h1 fun a ao F=>iB isAgg2 F rfl rfl H.q A2 fun a i2 F=>xR F rfl (fun w l=>r_neq F rfl rfl) fun a F=>xR F rfl (fun w l=>xM F rfl) (fun a F=>?_)
  rcases qU (z1 != C) with p | p
  ·
   replace d:=vR p d;have F:=F.eb 15 rfl p;refine qK F rfl rfl fun a F=>qK F rfl rfl fun a F=>qK F rfl rfl fun a F=>qK F rfl rfl fun a F=>xR F rfl (fun w l=>aU F rfl rfl) fun a F=>kA fun w H=>xF ?_;exact⟨true,(vE d),F.su,H⟩
  replace d:=vQ p d;have F:=F.eb 15 rfl p;refine qlA isAgg119 sizeOf119 F rfl rfl H.q R fun a v5 h2 F=>xR F rfl (fun w l=>xM F rfl) (fun a F=>?_);obtain⟨S,c2,d⟩:=xB d;refine dD F rfl call153 rfl (fun w w' h l=>l.through h) (fun w l=>impl_Con_agrees_c S c2 w aA ((H.go l).a h2) ((H.go l).a G)) fun a F=>xR F rfl (fun w l=>fW F rfl) fun a F=>xR F rfl (fun w l=>aF F rfl rfl) fun a F=>kA fun w H=>xF ?_;exact⟨(!S),(vE d),F.su,H⟩
 rintro a w ⟨I,rfl,F,H⟩
 have d:=xN V;refine xF (qP F rfl (fun z=>?_) (fun z=>?_))
 ·
  replace d:=vR z d;refine xP (xA 1 F rfl fun a F=>xJ (xT (oE (xS F rfl (oD F rfl) ?_))));obtain rfl:=oj d;exact⟨rfl,H.bl⟩
 replace d:=vQ z d;refine xL (xF (xC (xP (oF (s':=1) zV F rfl rfl R vU.f1 fun a p2 h3 F=>aY isAgg25 F rfl rfl H.sm h3 fun a v6 T F=>oL underlying25 F rfl rfl T fun a U F=>xA 1 F rfl fun a F=>xJ ?_))));obtain⟨K,d,M⟩:=xK d;refine xX (fun a w=>K= .nx ()∧Sk a 40 []∧Sep [] B e w []) ?_ ?_
 ·
  refine xW ?_;obtain⟨W,X,d⟩:=qE d;refine oU (fun g a w=>∃ (n:Nat) (j:List Int),(n≤i.scope.length∧i.scope.drop n=j)∧j.length=g∧qJ W j n ()=some K∧Sk a 40 [(24,xG (n:Int)),(0,t),(4,x),(22,v6),(23,xG (i.scope.length:Int))]∧Sep [] B e w []) i.scope.length ?_ ?_
  ·
   exact⟨0,i.scope,⟨Nat.zero_le _,rfl⟩,rfl,d,F.su,H⟩
  intro g1 a w ⟨n,j,f,Y,d,F,H⟩
  cases j with
  | nil=>
   replace d:=qH d;have q1:=qG f.1 f.2;have J:=vA q1;refine xP (xA 1 F rfl fun a F=>xJ (xC (qT F rfl J (oM (oR (oR (vH ?_)))))));refine xF ?_;exact⟨(vE d),F.sub sn,H⟩
  | cons x1 j=>
   subst Y;replace f:=oO f.2;have y4:=oZ f.2.1;obtain⟨aq,d,N⟩:=oV d;rw[X] at d;have J:=qM f.1;refine xP (xA 1 F rfl fun a F=>xJ (xC (qV F rfl J (xL (xF (xC ?_))))));have j1:=fE (Nat.le_of_lt f.1) U;have m1:=zC f.1 U;refine xW (xP (xA 1 F rfl fun a F=>oI underlying25 sizeOf2 F rfl rfl rfl T y4 fun a p3 h5 F=>aN isAgg2 F rfl rfl H.sm h5 fun a i4 F=>xA 2 F rfl fun a F=>xJ (xC ?_)));refine xQ H (by kernel_rfl) (by kernel_rfl) (qlS isAgg45 F rfl rfl H.q A4 fun a v7 h6 F=>xR F rfl (fun w l=>xM F rfl) (fun a F=>?_));obtain⟨z3,c3,d⟩:=xB d;refine qI underlying45 sizeOf25 F rfl rfl rfl h6 c3 fun a p4 h7 F=>qlS isAgg25 F rfl rfl H.q h7 fun a v8 h8 F=>xR F rfl (fun w l=>xM F rfl) fun a F=>xR F rfl (fun w l=>xM F rfl) (fun a F=>?_);obtain⟨z4,c4,d⟩:=xB d;refine qI underlying25 sizeOf2 F rfl rfl rfl G c4 fun a p5 h9 F=>iB isAgg2 F rfl rfl H.q h9 (fun a i5 F=>?_);obtain⟨z5,c5,d⟩:=xB d;refine dD F rfl call154 rfl (fun w w' h l=>l.through h) (fun w l=>bD z5 c5 w aA ((H.go l).a h8) i5) fun a F=>xR F rfl (fun w l=>fW F rfl) fun a F=>kA fun w H=>xF (qP F rfl (fun A=>?_) (fun A=>?_))
   ·
    replace d:=vR A d;refine xP (xA 1 F rfl fun a F=>xJ (xT (vJ (oE (oE ?_)))));replace d:=zR d N;refine vJ (oE ?_);replace d:=zQ d M;refine oE (xS F rfl (oD F rfl) ?_);obtain rfl:=oj d;exact⟨rfl,H.bl⟩
   replace d:=vQ A d;refine xL (qS (xF (xU (qQ F rfl rfl rfl m1 fun a F=>xA 1 F rfl fun a F=>xJ ?_))));replace d:=qX d N;exact⟨_,Nat.lt_succ_self _,n+1,j,⟨f.1,f.2.2⟩,rfl,d,F.su,H⟩
 rintro a w ⟨rfl,F,H⟩
 have d:=xN M;refine xF (xP (xA 1 F rfl fun a F=>xJ (xT (xS F rfl (oD F rfl) ?_))));obtain rfl:=oj d;exact⟨rfl,H.bl⟩
def kE (c:List (List Int)) (d:(List Int)→Option Bool):Option Int:=
 vT (σ:=Unit) (
  qJ (σ:=Unit) (ρ:=Int) (fun (e:Nat) (f:(List Int)) (s:Unit)=>
    match s with
    | _=>
    xY (d f) fun h=>
    if h then
     some (.ret ((e:Int)))
    else
     some (.go ())) c 0 ()) fun _=>
 some ((-1))
theorem gP {B:Nat→Prop} {h:List (List Int)} {C:(List Int)→Option Bool} (r:Int) (d:kE h C=some r) {t:Value} {j:FuncId} {p:List Value} (f:World) (R:∀ c,B c→c<f.heap.size) (D:Bo B f (Sl 1 (vO 1 xH)) t h) (K:∀ args w,(callFunc j args).run Tryz.prog w= .ok (.enter j args) w) (M:∀ (E:List Int) (r:Bool),C E=some r→∀ W,Below f.heap.size f W→∀ (G:Value),Bo (All W) W (Sl 1 xH) G E→Calls Tryz.prog j ([G]++p:List Value).toArray W (zO (.bool r) W)):Calls Tryz.prog 151 #[t,.func (.func j) #[] p.toArray] f (dW r f):=by
 unfold kE at d
 refine xV (L:=[(0,t),(1,.func (.func j) #[] p.toArray)]) func151 rfl rfl rfl (sc rfl (sc rfl sn)) (fun a F=>?_);have H:=Sep.start R;refine xP (xA 1 F rfl fun a F=>xJ (xC (xP (xA 1 F rfl fun a F=>oL underlying45 F rfl rfl D fun a I F=>xA 1 F rfl fun a F=>?_))));refine xJ ?_;obtain⟨J,d,z⟩:=xK d;refine xX (fun a w=>J= .nx ()∧Sk a 19 []∧Sep [] B f w []) ?_ ?_
 ·
  refine xW ?_;obtain⟨N,O,d⟩:=qE d;refine oU (fun g a w=>∃ (n:Nat) (i:List (List Int)),(n≤h.length∧h.drop n=i)∧i.length=g∧qJ N i n ()=some J∧Sk a 19 [(8,xG (n:Int)),(0,t),(1,.func (.func j) #[] p.toArray),(7,xG (h.length:Int))]∧Sep [] B f w []) h.length ?_ ?_
  ·
   exact⟨0,h,⟨Nat.zero_le _,rfl⟩,rfl,d,F.su,H⟩
  intro g2 a w ⟨n,i,e,P,d,F,H⟩
  cases i with
  | nil=>
   replace d:=qH d;have S:=qG e.1 e.2;have y:=vA S;refine xP (xA 1 F rfl fun a F=>xJ (xC (qT F rfl y (oM (oR (oR (vH ?_)))))));refine xF ?_;exact⟨(vE d),F.sub sn,H⟩
  | cons x2 i=>
   subst P;replace e:=oO e.2;have T:=oZ e.2.1;obtain⟨a0,d,A⟩:=oV d;rw[O] at d;have y:=qM e.1;refine xP (xA 1 F rfl fun a F=>xJ (xC (qV F rfl y (xL (xF (xC ?_))))));have U:=fE (Nat.le_of_lt e.1) I;have V:=zC e.1 I;refine xW (xP (xA 2 F rfl fun a F=>qO (xA 2 F rfl fun a F=>?_)));refine xA 1 F rfl fun a F=>oI underlying45 sizeOf25 F rfl rfl rfl D T fun a p1 Q F=>aY isAgg25 F rfl rfl H.sm Q (fun a v1 X F=>?_);obtain⟨Y,Z,d⟩:=xB d;refine oKV F rfl rfl K rfl H (M _ Y Z _ H.bl _ (H.a X)) fun a w H F=>xJ (qP F rfl (fun x=>?_) (fun x=>?_))
   ·
    replace d:=vR x d;refine xP (xA 2 F rfl fun a F=>xJ (xT (vJ (oE (oE ?_)))));replace d:=zR d A;refine vJ (oE ?_);replace d:=zQ d z;refine oE (xS F rfl (oD F rfl) ?_);obtain rfl:=oj d;exact⟨⟨rfl,H.bl⟩,U⟩
   replace d:=vQ x d;refine xL (qS (xF (xU (qQ F rfl rfl rfl V fun a F=>xA 1 F rfl fun a F=>xJ ?_))));replace d:=qX d A;exact⟨_,Nat.lt_succ_self _,n+1,i,⟨e.1,e.2.2⟩,rfl,d,F.su,H⟩
 rintro a w ⟨rfl,F,H⟩
 have d:=xN z;refine xF (xP (xA 1 F rfl fun a F=>xJ (xT (xS F rfl (oD F rfl) ?_))));obtain rfl:=oj d;exact⟨⟨rfl,H.bl⟩,(show xZ (-1) by decide)⟩
def vP (c:List (List Int)) (d:(List Int)→Option Bool):Option Bool:=
 xY (kE c d) fun e=>
 some ((decide (0≤e)))
theorem kS {B:Nat→Prop} {p:List (List Int)} {t:(List Int)→Option Bool} (r:Bool) (f:vP p t=some r) {n:Value} {e:FuncId} {j:List Value} (d:World) (A:∀ c,B c→c<d.heap.size) (C:Bo B d (Sl 1 (vO 1 xH)) n p) (y:∀ args w,(callFunc e args).run Tryz.prog w= .ok (.enter e args) w) (z:∀ (i:List Int) (r:Bool),t i=some r→∀ W,Below d.heap.size d W→∀ (x:Value),Bo (All W) W (Sl 1 xH) x i→Calls Tryz.prog e ([x]++j:List Value).toArray W (zO (.bool r) W)):Calls Tryz.prog 119 #[n,.func (.func e) #[] j.toArray] d (zO (.bool r) d):=by
 unfold vP at f
 refine xV (L:=[(0,n),(1,.func (.func e) #[] j.toArray)]) func119 rfl rfl rfl (sc rfl (sc rfl sn)) (fun a F=>?_);have H:=Sep.start A;refine xP (xA 1 F rfl fun a F=>qO (xA 2 F rfl fun a F=>?_));obtain⟨D,E,f⟩:=xB f;refine oKI F rfl call151 rfl H (gP D E _ aA (H.a C) y (fun i r h W G=>z i r h W (H.bl.trans (G.mono H.fr.size)))) fun a w H I F=>xA 2 F rfl fun a F=>xJ (xT (xS F rfl (oD F rfl) ?_));obtain rfl:=oj f;exact⟨rfl,H.bl⟩
def aZ (d:Template) (c:Con) (e:List (List Int)) (f h:Int):Option Bool:=
 xY (ix d.rels c.rel) fun i=>
 xY (vP i.tuples (fun j=>dS j f h (Con.mk c.rel c.scope) e)) fun n=>
 some n
theorem impl_hasSupport_c {B:Nat→Prop} {x:Template} {y:Con} {z:List (List Int)} {f i:Int} (r:Bool) (d:aZ x y z f i=some r) {n:Value} {p:Value} {t:Value} (e:World) (E:∀ c,B c→c<e.heap.size) (G:Bo B e (zX 2 xI) n x) (I:Bo B e (zX 2 vU) p y) (A:Bo B e (Sl 1 (vO 1 xH)) t z) (C:xZ f) (D:xZ i):Calls Tryz.prog 129 #[n,p,t,xG f,xG i] e (zO (.bool r) e):=by
 unfold aZ at d
 refine xV (L:=[(0,n),(1,p),(2,t),(3,xG f),(4,xG i)]) func129 rfl rfl rfl (sc rfl (sc rfl (sc rfl (sc rfl (sc rfl sn))))) (fun a F=>?_);have H:=Sep.start E;refine xP ?_;obtain⟨U,rfl,V,J⟩:=xI.o G;refine oX F rfl rfl rfl H (fun a w X H F=>?_);obtain⟨T,rfl,K,M⟩:=vU.o I;refine oX F rfl rfl rfl H fun a w Y H F=>oX F rfl rfl (one_cells (H.a A).one) H fun a w Z H F=>oX F rfl rfl rfl H fun a w b4 H F=>oX F rfl rfl rfl H fun a w b5 H F=>xA 1 F rfl fun a F=>qO (oH kR F rfl rfl rfl fun a F=>oB isAgg29 F rfl rfl (H.b 4 rfl) rfl (fun a F=>?_));refine oH fR F rfl rfl rfl fun a F=>oB isAgg2 F rfl rfl (H.b 3 rfl) rfl (fun a F=>?_);obtain⟨z1,N,d⟩:=xB d;refine oI underlying29 sizeOf51 F rfl rfl rfl J N fun a p1 O F=>oF (s':=1) vW F rfl rfl O qD.f1 fun a p2 P F=>aY isAgg45 F rfl rfl H.sm P fun a v4 Q F=>iW F rfl rfl rfl (fun a F=>?_);obtain⟨R,S,d⟩:=xB d;refine oK F rfl call119 rfl H (kS R S _ aA (H.a Q) call152 (fun a0 r h W j u0 f0=>impl_hasSupport_1_c r h W aA f0 ((c1I (H.g 1 rfl).bk C).w j) ((c1I (H.g 0 rfl).bk D).w j) ((vU.b (H.g 3 rfl).bk K (H.a M)).w j) ((c1S (H.g 2 rfl).bk (H.a A)).w j))) fun a w H F=>xA 1 F rfl fun a F=>xJ (xT (xS F rfl (oD F rfl) ?_));obtain rfl:=oj d;exact⟨rfl,H.bl⟩
def iT (c d:Int):Option Bool:=
 some ((c==d))
theorem impl_without_1_c {B:Nat→Prop} {d h:Int} (r:Bool) (i:iT d h=some r) {f:Value} (e:World) (j:∀ c,B c→c<e.heap.size) (p:xZ d) (n:Bo B e (Pt 1 xH) f h):Calls Tryz.prog 156 #[xG d,f] e (zO (.bool r) e):=by
 unfold iT at i
 refine xV (L:=[(0,xG d),(1,f)]) func156 rfl rfl rfl (sc rfl (sc rfl sn)) (fun a F=>?_);have H:=Sep.start j;refine xP (xA 1 F rfl fun a F=>qO (xA 1 F rfl fun a F=>aN isAgg2 F rfl rfl H.sm n fun a t F=>xA 2 F rfl fun a F=>?_));refine xJ (xT (xS F rfl (oD F rfl) ?_));obtain rfl:=oj i;exact⟨rfl,H.bl⟩
def iD:Option Bool:=
 some false
theorem impl_never_c {B:Nat→Prop} (r:Bool) (e:iD=some r)  (d:World) (f:∀ c,B c→c<d.heap.size):Calls Tryz.prog 97 #[] d (zO (.bool r) d):=by
 unfold iD at e
 refine xV (L:=[]) func97 rfl rfl rfl sn (fun a F=>?_);have H:=Sep.start f;refine xP (xA 1 F rfl fun a F=>qO (xA 1 F rfl fun a F=>xJ (xT ?_)));refine xS F rfl (oD F rfl) ?_;obtain rfl:=oj e;exact⟨rfl,H.bl⟩
def eN (c:Template) (d:Instance):Option solver:=
 vT (σ:=(List Atom)) (
  qJ (σ:=(List Atom)) (ρ:=solver) (fun (n:Nat) (e:Con) (f:(List Atom))=>
   xY (ap f ([(Atom.mk e.rel e.scope)])) fun h=>
   some (.go h)) d.cons 0 []) fun i=>
 xY (fP (Template.mk c.size c.rels) d.vars i) fun j=>
 some j
theorem impl_solverFor_c {B:Nat→Prop} {p:Template} {f:Instance} (r:solver) (d:eN p f=some r) {E:Value} {G:Value} (h:World) (hN:∀ c,B c→c<h.heap.size) (A0:Bo B h (zX 2 xI) E p) (A1:Bo B h (zX 2 xO) G f):Calls Tryz.prog 98 #[E,G] h (Gv (fun v w'=>∃ (O:Value),v=O∧Sep [] B h w' [ro B (V:=(Pt 4 kF)) O r])):=by
 unfold eN at d
 refine xV (L:=[(0,E),(1,G)]) func98 rfl rfl rfl (sc rfl (sc rfl sn)) (fun a F=>?_);have H:=Sep.start hN;refine xP ?_;obtain⟨P,rfl,i1,h1⟩:=xI.o A0;refine oX F rfl rfl rfl H (fun a w t H F=>?_);obtain⟨D,rfl,i2,Q⟩:=xO.o A1;refine oX F rfl rfl rfl H fun a w A H F=>xA 1 F rfl fun a F=>qO (oR0 (R:=zL) underlying179 sizeOf181 F rfl H fun a w v3 H F=>xA 1 F rfl fun a F=>xJ (xC ?_));refine xP (oH bU F rfl rfl rfl fun a F=>oB isAgg33 F rfl rfl (H.b 1 rfl) rfl fun a F=>oL underlying33 F rfl rfl Q fun a T F=>xA 1 F rfl fun a F=>xJ ?_);obtain⟨U,d,W⟩:=xK d;refine xX (fun a w=>∃ (I:List Atom) (J:Value),U= .nx I∧Sk a 30 [(2,vK t),(3,vK A),(5,J)]∧Sep [] B h w [rw B 2 zL 181 J I,bx A [xG f.vars,D] 35,bx t [xG p.size,P] 31]) ?_ ?_
 ·
  refine xW ?_;obtain⟨X,Y,d⟩:=qE d;refine oU (fun g a w=>∃ (j:Nat) (i:List Con) (C:List Atom) (n:Value),(j≤f.cons.length∧f.cons.drop j=i)∧i.length=g∧qJ X i j C=some U∧Sk a 30 [(12,xG (j:Int)),(2,vK t),(3,vK A),(5,n),(10,D),(11,xG (f.cons.length:Int))]∧Sep [] B h w [rw B 2 zL 181 n C,bx A [xG f.vars,D] 35,bx t [xG p.size,P] 31]) f.cons.length ?_ ?_
  ·
   exact⟨0,f.cons,[],v3,⟨Nat.zero_le _,rfl⟩,rfl,d,F.su,H.lw.wk⟩
  intro g1 a w ⟨j,i,C,n,e,Z,d,F,H⟩
  cases i with
  | nil=>
   replace d:=qH d;have q1:=qG e.1 e.2;have K:=vA q1;refine xP (xA 1 F rfl fun a F=>xJ (xC (qT F rfl K (oM (oR (oR (vH ?_)))))));refine xF ?_;exact⟨C,n,(vE d),F.su,H⟩
  | cons M i=>
   subst Z;replace e:=oO e.2;have y1:=oZ e.2.1;obtain⟨aw,d,a0⟩:=oV d;rw[Y] at d;have K:=qM e.1;refine xP (xA 1 F rfl fun a F=>xJ (xC (qV F rfl K (xL (xF (xC ?_))))));have j1:=fE (Nat.le_of_lt e.1) T;have m1:=zC e.1 T;refine xW (xP (oI underlying33 sizeOf119 F rfl rfl rfl Q y1 fun a p1 h3 F=>olA isAgg119 sizeOf119 F rfl rfl H.sm h3 fun a v5 h4 F=>oA zeroValue119 F rfl rfl H (fun a w b3 H F=>?_)));obtain⟨v6,rfl,i4,N⟩:=vU.o h4;refine oWA (vs:=[xG M.rel,v6]) sizeOf119 F rfl rfl rfl H (oc rfl (oc (H.a N).one on)) rfl rfl fun w H=>xJ (xU (xA 1 F rfl fun a F=>oH fR F rfl rfl rfl fun a F=>oB isAgg2 F rfl rfl (H.b 0 rfl) rfl fun a F=>oH zV F rfl rfl rfl fun a F=>oB isAgg25 F rfl rfl (H.b 0 rfl) rfl fun a F=>kV underlying181 zeroValue181 (fun w=>by simp [sizeOf2,sizeOf25];rfl) F rfl rfl rfl rfl rfl (oc rfl (oc (H.a N).one on)) rfl rfl fun a F=>oR1 (R:=zL) (y:=(Atom.mk M.rel M.scope)) (N1:=B) underlying179 sizeOf181 zeroValue181 rfl rfl F rfl rfl H n1 (Eo.agg (zL.m i4 (H.u N))) (fun a w v7 H F=>?_)));obtain⟨z1,c1,d⟩:=xB d;refine oP (sz:=2) (R:=zL) (z:=(.agg #[xG 0,aE])) (bytes:=32) underlying179 (by kernel_rfl) rfl rfl F rfl rfl rfl (H.s [2,0,1,3,4] rfl rfl) c1 fun a w v8 H F=>xA 1 F rfl fun a F=>oY (qS (xF (xU (qQ F rfl rfl rfl m1 fun a F=>xA 1 F rfl fun a F=>xJ ?_))));replace d:=qX d a0;exact⟨_,Nat.lt_succ_self _,j+1,i,z1,v8,⟨e.1,e.2.2⟩,rfl,d,F.su,(H.s [0,2,3] rfl rfl)⟩
 rintro a w ⟨I,J,rfl,F,H⟩
 have d:=xN W;refine xF (xP (fU isAgg31 sizeOf31 F rfl rfl (H.b 2 rfl) rfl rfl fun a F=>oH kD F rfl rfl rfl fun a F=>oB isAgg2 F rfl rfl (H.b 1 rfl) rfl fun a F=>xA 1 F rfl fun a F=>?_));obtain⟨w1,rfl⟩:∃ x,x=w:=⟨_,rfl⟩;have ax:=H.sm;obtain⟨X1,N2,g2,e1,H,a1,ay⟩:=H.fza;have h6:=g2.rd;obtain⟨z2,c2,d⟩:=xB d;refine oG F rfl call131 rfl (impl_solverOf_s z2 c2 _ H.hN (xI.m i1 (H.u (e1 h1))) i2 (H.u h6)) (fun a vv w ⟨v9,az,S⟩ F=>?_);subst vv;have H:=H.r1 S n1;obtain⟨w2,rfl⟩:∃ x,x=w:=⟨_,rfl⟩;have b0:=H.sm;obtain⟨X2,N3,g3,e2,H,a2,b1⟩:=H.fza;have h7:=g3.rod;refine xA 1 F rfl fun a F=>xJ (xT ?_);have H:=H.rob h7;have H:=(a1.2.1 (a2.2.1 (H.s [0] rfl rfl) (Ns.all trivial)) (Ns.all trivial));refine xS F rfl (oD F rfl) ?_;obtain rfl:=oj d;exact⟨_,rfl,v9,rfl,H⟩
def dU (N:Nat) (d:solver) (c:List Int):Option ((List Int)×Bool):=
 vT (σ:=Unit) (
  qJ (σ:=Unit) (ρ:=(List Int)×Bool) (fun (f:Nat) (n:Int) (s:Unit)=>
    match s with
    | _=>
    xY (ck ((f:Int)+1)) fun h=>
    xY (sl c 0 h) fun i=>
    xY (bK N d i) fun j=>
    if (!j) then
     some (.ret ([],false))
    else
     some (.go ())) c 0 ()) fun _=>
 xY (dY (fun a _=>some (false,a)) N d c ([])) fun e=>
 some (e.2,(!e.1))
theorem impl_solver_first_c {B:Nat→Prop} {N:Nat} {J:solver} {i:List Int} (r:(List Int)×Bool) (d:dU N J i=some r) {t:Value} {x:Value} (j:World) (V:∀ c,B c→c<j.heap.size) (K:Bo B j (Pt 4 kF) t J) (C:Bo B j (Sl 1 xH) x i):Calls Tryz.prog 99 #[t,x] j (Gv (fun v w'=>∃ (E:Value),v= .tuple #[E,.bool r.2]∧Sep [] B j w' [rl 1 xH 2 E r.1])):=by
 unfold dU at d
 refine xV (L:=[(0,t),(1,x)]) func99 rfl rfl rfl (sc rfl (sc rfl sn)) (fun a F=>?_);have H:=Sep.start V;refine xP (xA 2 F rfl fun a F=>xJ (xC (xP (xA 1 F rfl fun a F=>oL underlying25 F rfl rfl C (fun a M F=>?_)))));refine xA 1 F rfl fun a F=>xJ ?_;obtain⟨O,d,G⟩:=xK d;refine xX (fun a w=>O= .nx ()∧Sk a 29 [(0,t),(1,x)]∧Sep [] B j w []) ?_ ?_
 ·
  refine xW ?_;obtain⟨Q,R,d⟩:=qE d;refine oU (fun g a w=>∃ (p:Nat) (n:List Int),(p≤i.length∧i.drop p=n)∧n.length=g∧qJ Q n p ()=some O∧Sk a 29 [(11,xG (p:Int)),(0,t),(1,x),(10,xG (i.length:Int))]∧Sep [] B j w []) i.length ?_ ?_
  ·
   exact⟨0,i,⟨Nat.zero_le _,rfl⟩,rfl,d,F.su,H⟩
  intro g1 a w ⟨p,n,e,T,d,F,H⟩
  cases n with
  | nil=>
   replace d:=qH d;have W:=qG e.1 e.2;have D:=vA W;refine xP (xA 1 F rfl fun a F=>xJ (xC (qT F rfl D (oM (oR (oR (vH ?_)))))));refine xF ?_;exact⟨(vE d),F.su,H⟩
  | cons x2 n=>
   subst T;replace e:=oO e.2;have y1:=oZ e.2.1;obtain⟨a6,d,I⟩:=oV d;rw[R] at d;have D:=qM e.1;refine xP (xA 1 F rfl fun a F=>xJ (xC (qV F rfl D (xL (xF (xC ?_))))));have j1:=fE (Nat.le_of_lt e.1) M;have X:=zC e.1 M;refine xW (xP (xA 2 F rfl fun a F=>qO (xA 2 F rfl fun a F=>?_)));refine xA 1 F rfl fun a F=>?_;obtain⟨z1,Y,d⟩:=xB d;refine kI F rfl rfl rfl Y (fun a F=>?_);obtain⟨z2,Z,d⟩:=xB d;refine oC underlying25 sizeOf2 F rfl rfl rfl rfl C Z (fun a v2 h1 F=>?_);obtain⟨z3,c3,d⟩:=xB d;refine oK F rfl call132 rfl H (impl_solver_goes_c z3 c3 _ aA (H.a K) (H.a h1)) fun a w H F=>xA 1 F rfl fun a F=>xJ (qP F rfl (fun z=>?_) (fun z=>?_))
   ·
    replace d:=vR z d;refine xP (xA 2 F rfl fun a F=>xJ (xT (vJ (oE (oE ?_)))));replace d:=zR d I;refine vJ (oE ?_);replace d:=zQ d G;refine oE (vV F rfl (oD F rfl) (oD F rfl) ?_);obtain rfl:=oj d;exact⟨_,rfl,aE,rfl,(H.nl 1 xH 2)⟩
   replace d:=vQ z d;refine xL (qS (xF (xU (qQ F rfl rfl rfl X fun a F=>xA 1 F rfl fun a F=>xJ ?_))));replace d:=qX d I;exact⟨_,Nat.lt_succ_self _,p+1,n,⟨e.1,e.2.2⟩,rfl,d,F.su,H⟩
 rintro a w ⟨rfl,F,H⟩
 have d:=xN G;refine xF (xP (oA zeroValue25 F rfl rfl H fun a w y H F=>qO (xA 2 F rfl fun a F=>iW F rfl rfl rfl (fun a F=>?_))));have H:=H.nl 1 xH 2;obtain⟨P,c4,d⟩:=xB d;obtain⟨X1,K1,U⟩:=Sep.lend1 (A:=bI y ([])) (Sep.exI (f:=fun v=>pr (bx y [v] 25) (rl 1 xH 2 v ([]))) (b:=aE) ((H.s [1,0] rfl rfl)).mg);refine oG F rfl call133 rfl (solver_walk_c (fun _ _ h=>h) call134 (first1_c y) N P c4 _ K1 (H.u K) (H.u C)) (fun a vv w ⟨hv,S⟩ F=>?_);subst vv;obtain⟨v3,H⟩:=Sep.exE (f:=fun v=>pr (bx y [v] 25) (rl 1 xH 2 v P.2)) (U S);have H:=H.um;refine xA 2 F rfl fun a F=>qO (oB isAgg25 F rfl rfl (H.b 0 rfl) rfl fun a F=>xA 3 F rfl fun a F=>oY ?_);refine xF (xT (vV F rfl (oD F rfl) (oD F rfl) ?_));obtain rfl:=oj d;exact⟨_,rfl,v3,rfl,(H.s [1] rfl rfl)⟩
def dM (c:List Int) (e:Con) (n p f h:Int):Option Bool:=
 vT (σ:=Unit) (
  qJ (σ:=Unit) (ρ:=Bool) (fun (i:Nat) (d:Int) (s:Unit)=>
    match s with
    | _=>
    vT (σ:=Bool) (
     if (d==n) then  xY (ix c (i:Int)) fun j=>
      if (j != p) then  some (.nx true) else  if (d==f) then  some (.nx (j != h)) else  some (.nx false) else  if (d==f) then  xY (ix c (i:Int)) fun t=>
       some (.nx (t != h)) else  some (.nx false)) fun x=>
    if x then
     some (.ret false)
    else
     some (.go ())) e.scope 0 ()) fun _=>
 xY (dH e c) fun y=>
 some y
theorem impl_Con_allows_1_c {B:Nat→Prop} {T:List Int} {h:Con} {M N G I:Int} (r:Bool) (d:dM T h M N G I=some r) {n:Value} {p:Value} {A:Value} {C:Value} {D:Value} {E:Value} (e:World) (hN:∀ c,B c→c<e.heap.size) (J:Bo B e (Sl 1 xH) n T) (U:Bo B e (Pt 2 vU) p h) (A2:Bo B e (Pt 1 xH) A M) (A3:Bo B e (Pt 1 xH) C N) (V:Bo B e (Pt 1 xH) D G) (W:Bo B e (Pt 1 xH) E I):Calls Tryz.prog 179 #[n,p,A,C,D,E] e (zO (.bool r) e):=by
 unfold dM at d
 refine xV (L:=[(0,n),(1,p),(2,A),(3,C),(4,D),(5,E)]) func179 rfl rfl rfl (sc rfl (sc rfl (sc rfl (sc rfl (sc rfl (sc rfl sn)))))) (fun a F=>?_);have H:=Sep.start hN;refine xP (xA 1 F rfl fun a F=>xJ (xC (xP (oF (s':=1) zV F rfl rfl U vU.f1 fun a p1 h1 F=>aY isAgg25 F rfl rfl H.sm h1 fun a X Y F=>oL underlying25 F rfl rfl Y (fun a Z F=>?_)))));refine xA 1 F rfl fun a F=>xJ ?_;obtain⟨o1,d,R⟩:=xK d;refine xX (fun a w=>o1= .nx ()∧Sk a 46 [(0,n),(1,p)]∧Sep [] B e w []) ?_ ?_
 ·
  refine xW ?_;obtain⟨a3,a4,d⟩:=qE d;refine oU (fun g a w=>∃ (i:Nat) (j:List Int),(i≤h.scope.length∧h.scope.drop i=j)∧j.length=g∧qJ a3 j i ()=some o1∧Sk a 46 [(13,xG (i:Int)),(0,n),(1,p),(2,A),(3,C),(4,D),(5,E),(11,X),(12,xG (h.scope.length:Int))]∧Sep [] B e w []) h.scope.length ?_ ?_
  ·
   exact⟨0,h.scope,⟨Nat.zero_le _,rfl⟩,rfl,d,F.su,H⟩
  intro g1 a w ⟨i,j,f,a5,d,F,H⟩
  cases j with
  | nil=>
   replace d:=qH d;have q1:=qG f.1 f.2;have O:=vA q1;refine xP (xA 1 F rfl fun a F=>xJ (xC (qT F rfl O (oM (oR (oR (vH ?_)))))));refine xF ?_;exact⟨(vE d),F.su,H⟩
  | cons P j=>
   subst a5;replace f:=oO f.2;have y5:=oZ f.2.1;obtain⟨ao,d,S⟩:=oV d;rw[a4] at d;have O:=qM f.1;refine xP (xA 1 F rfl fun a F=>xJ (xC (qV F rfl O (xL (xF (xC ?_))))));have j1:=fE (Nat.le_of_lt f.1) Z;have m1:=zC f.1 Z;refine xW (xP (xA 1 F rfl fun a F=>oI underlying25 sizeOf2 F rfl rfl rfl Y y5 fun a p2 h3 F=>aN isAgg2 F rfl rfl H.sm h3 fun a i2 F=>xA 2 F rfl fun a F=>xJ (xC ?_)));obtain⟨o2,d,a6⟩:=xK d;refine xX (fun a w=>∃ (Q:Bool),o2= .nx Q∧Sk a 46 [(0,n),(1,p),(2,A),(3,C),(4,D),(5,E),(11,X),(12,xG (h.scope.length:Int)),(13,xG (i:Int)),(41,.bool Q)]∧Sep [] B e w []) ?_ ?_
   ·
    refine xQ H (by kernel_rfl) (by kernel_rfl) (xR F rfl (fun w l=>xM F rfl) fun a F=>iB isAgg2 F rfl rfl H.q A2 fun a i3 F=>xR F rfl (fun w l=>r_eql F rfl rfl) fun a F=>xR F rfl (fun w l=>xM F rfl) (fun a F=>?_))
    rcases qU (P==M) with t | t
    ·
     replace d:=vR t d;have F:=F.eb 21 rfl t;refine xR F rfl (fun w l=>xM F rfl) fun a F=>xR F rfl (fun w l=>xM F rfl) (fun a F=>?_);obtain⟨z1,c1,d⟩:=xB d;refine qI underlying25 sizeOf2 F rfl rfl rfl J c1 fun a p3 h4 F=>iB isAgg2 F rfl rfl H.q h4 fun a i4 F=>iB isAgg2 F rfl rfl H.q A3 fun a i5 F=>xR F rfl (fun w l=>r_neq F rfl rfl) fun a F=>xR F rfl (fun w l=>aU F rfl rfl) fun a F=>xR F rfl (fun w l=>xM F rfl) (fun a F=>?_)
     rcases qU (z1 != N) with x | x
     ·
      replace d:=vR x d;have F:=F.eb 29 rfl x;refine qK F rfl rfl fun a F=>qK F rfl rfl fun a F=>qK F rfl rfl fun a F=>qK F rfl rfl fun a F=>qK F rfl rfl fun a F=>qK F rfl rfl fun a F=>qK F rfl rfl fun a F=>qK F rfl rfl fun a F=>qK F rfl rfl fun a F=>qK F rfl rfl fun a F=>qK F rfl rfl (fun a F=>?_);refine xR F rfl (fun w l=>aU F rfl rfl) fun a F=>kA fun w H=>xF ?_;exact⟨true,(vE d),F.su,H⟩
     replace d:=vQ x d;have F:=F.eb 29 rfl x;refine xR F rfl (fun w l=>xM F rfl) fun a F=>iB isAgg2 F rfl rfl H.q V fun a i6 F=>xR F rfl (fun w l=>r_eql F rfl rfl) fun a F=>xR F rfl (fun w l=>xM F rfl) (fun a F=>?_)
     rcases qU (P==G) with y | y
     ·
      replace d:=vR y d;have F:=F.eb 33 rfl y;refine xR F rfl (fun w l=>xM F rfl) fun a F=>xR F rfl (fun w l=>xM F rfl) fun a F=>qI underlying25 sizeOf2 F rfl rfl rfl J c1 fun a p4 h5 F=>iB isAgg2 F rfl rfl H.q h5 fun a i7 F=>iB isAgg2 F rfl rfl H.q W fun a i8 F=>xR F rfl (fun w l=>r_neq F rfl rfl) fun a F=>xR F rfl (fun w l=>aU F rfl rfl) fun a F=>xR F rfl (fun w l=>aF F rfl rfl) fun a F=>kA fun w H=>xF ?_;exact⟨(z1 != I),(vE d),F.su,H⟩
     replace d:=vQ y d;have F:=F.eb 33 rfl y;refine qK F rfl rfl fun a F=>qK F rfl rfl fun a F=>qK F rfl rfl fun a F=>qK F rfl rfl fun a F=>qK F rfl rfl fun a F=>qK F rfl rfl fun a F=>xR F rfl (fun w l=>aF F rfl rfl) fun a F=>xR F rfl (fun w l=>aF F rfl rfl) fun a F=>kA fun w H=>xF ?_;exact⟨false,(vE d),F.su,H⟩
    replace d:=vQ t d;have F:=F.eb 21 rfl t;refine qK F rfl rfl fun a F=>qK F rfl rfl fun a F=>qK F rfl rfl fun a F=>qK F rfl rfl fun a F=>qK F rfl rfl fun a F=>qK F rfl rfl fun a F=>xR F rfl (fun w l=>aF F rfl rfl) fun a F=>xR F rfl (fun w l=>xM F rfl) fun a F=>xR F rfl (fun w l=>xM F rfl) fun a F=>iB isAgg2 F rfl rfl H.q V fun a i9 F=>xR F rfl (fun w l=>r_eql F rfl rfl) (fun a F=>?_);refine xR F rfl (fun w l=>xM F rfl) (fun a F=>?_)
    rcases qU (P==G) with z | z
    ·
     replace d:=vR z d;have F:=F.eb 33 rfl z;refine xR F rfl (fun w l=>xM F rfl) fun a F=>xR F rfl (fun w l=>xM F rfl) (fun a F=>?_);obtain⟨z2,c2,d⟩:=xB d;refine qI underlying25 sizeOf2 F rfl rfl rfl J c2 fun a p5 h6 F=>iB isAgg2 F rfl rfl H.q h6 fun a aq F=>iB isAgg2 F rfl rfl H.q W fun a ar F=>xR F rfl (fun w l=>r_neq F rfl rfl) fun a F=>xR F rfl (fun w l=>aU F rfl rfl) fun a F=>xR F rfl (fun w l=>aF F rfl rfl) fun a F=>kA fun w H=>xF ?_;exact⟨(z2 != I),(vE d),F.su,H⟩
    replace d:=vQ z d;have F:=F.eb 33 rfl z;refine qK F rfl rfl fun a F=>qK F rfl rfl fun a F=>qK F rfl rfl fun a F=>qK F rfl rfl fun a F=>qK F rfl rfl fun a F=>qK F rfl rfl fun a F=>xR F rfl (fun w l=>aF F rfl rfl) fun a F=>xR F rfl (fun w l=>aF F rfl rfl) fun a F=>kA fun w H=>xF ?_;exact⟨false,(vE d),F.su,H⟩
   rintro a w ⟨Q,rfl,F,H⟩
   have d:=xN a6;refine xF (qP F rfl (fun K=>?_) (fun K=>?_))
   ·
    replace d:=vR K d;refine xP (xA 1 F rfl fun a F=>xJ (xT (vJ (oE (oE ?_)))));replace d:=zR d S;refine vJ (oE ?_);replace d:=zQ d R;refine oE (xS F rfl (oD F rfl) ?_);obtain rfl:=oj d;exact⟨rfl,H.bl⟩
   replace d:=vQ K d;refine xL (qS (xF (xU (qQ F rfl rfl rfl m1 fun a F=>xA 1 F rfl fun a F=>xJ ?_))));replace d:=qX d S;exact⟨_,Nat.lt_succ_self _,i+1,j,⟨f.1,f.2.2⟩,rfl,d,F.su,H⟩
 rintro a w ⟨rfl,F,H⟩
 have d:=xN R;refine xF (xP (olA isAgg119 sizeOf119 F rfl rfl H.sm U fun a v7 h7 F=>xA 1 F rfl fun a F=>?_));obtain⟨z3,c3,d⟩:=xB d;refine oK F rfl call153 rfl H (impl_Con_agrees_c z3 c3 _ aA (H.a h7) (H.a J)) fun a w H F=>xA 1 F rfl fun a F=>xJ (xT (xS F rfl (oD F rfl) ?_));obtain rfl:=oj d;exact⟨rfl,H.bl⟩
def dG (c:Con) (h:Template) (d e i j:Int):Option Bool:=
 vT (σ:=Bool) (
  xY (vZ c.scope d) fun f=>
  if (!f) then  xY (vZ c.scope e) fun n=>
   some (.nx (!n)) else  some (.nx false)) fun p=>
 if p then
  some true
 else
  xY (ix h.rels c.rel) fun t=>
  xY (vP t.tuples (fun x=>dM x (Con.mk c.rel c.scope) d i e j)) fun y=>
  some y
theorem impl_Con_allows_c {B:Nat→Prop} {y:Con} {z:Template} {i j n p:Int} (r:Bool) (d:dG y z i j n p=some r) {A:Value} {C:Value} (e:World) (X:∀ c,B c→c<e.heap.size) (Y:Bo B e (zX 2 vU) A y) (Z:Bo B e (zX 2 xI) C z) (G:xZ i) (I:xZ j) (S:xZ n) (T:xZ p):Calls Tryz.prog 165 #[A,C,xG i,xG j,xG n,xG p] e (zO (.bool r) e):=by
 unfold dG at d
 refine xV (L:=[(0,A),(1,C),(2,xG i),(3,xG j),(4,xG n),(5,xG p)]) func165 rfl rfl rfl (sc rfl (sc rfl (sc rfl (sc rfl (sc rfl (sc rfl sn)))))) (fun a F=>?_);have H:=Sep.start X;refine xP ?_;obtain⟨v2,rfl,i1,D⟩:=vU.o Y;refine oX F rfl rfl rfl H (fun a w K H F=>?_);obtain⟨U,rfl,i2,h2⟩:=xI.o Z;refine oX F rfl rfl rfl H fun a w M H F=>oX F rfl rfl rfl H fun a w N H F=>oX F rfl rfl rfl H fun a w O H F=>oX F rfl rfl rfl H fun a w P H F=>oX F rfl rfl rfl H fun a w Q H F=>xA 1 F rfl fun a F=>xJ (xC (xC ?_));obtain⟨o1,d,V⟩:=xK d;refine xX (fun a w=>∃ (E:Bool),o1= .nx E∧Sk a 34 [(6,vK K),(7,vK M),(8,vK N),(9,vK O),(10,vK P),(11,vK Q),(24,.bool E)]∧Sep [] B e w [bx Q [xG p] 2,bx P [xG n] 2,bx O [xG j] 2,bx N [xG i] 2,bx M [xG z.size,U] 31,bx K [xG y.rel,v2] 119]) ?_ ?_
 ·
  refine xU (oH zV F rfl rfl rfl fun a F=>oB isAgg25 F rfl rfl (H.b 5 rfl) rfl fun a F=>oB isAgg2 F rfl rfl (H.b 3 rfl) rfl (fun a F=>?_));obtain⟨J,c1,d⟩:=xB d;refine oK F rfl call154 rfl H (bD J c1 _ aA (H.a D) G) fun a w H F=>xA 2 F rfl fun a F=>?_
  rcases qU (!J) with f | f
  ·
   replace d:=vR f d;have F:=F.eb 18 rfl f;refine oH zV F rfl rfl rfl fun a F=>oB isAgg25 F rfl rfl (H.b 5 rfl) rfl fun a F=>oB isAgg2 F rfl rfl (H.b 2 rfl) rfl (fun a F=>?_);obtain⟨R,c2,d⟩:=xB d;refine oK F rfl call154 rfl H (bD R c2 _ aA (H.a D) I) fun a w H F=>xA 2 F rfl fun a F=>xJ ?_;exact⟨(!R),(vE d),F.su,H⟩
  replace d:=vQ f d;have F:=F.eb 18 rfl f;refine xA 6 F rfl fun a F=>xJ ?_;exact⟨false,(vE d),F.su,H⟩
 rintro a w ⟨E,rfl,F,H⟩
 have d:=xN V;refine xF (qP F rfl (fun x=>?_) (fun x=>?_))
 ·
  replace d:=vR x d;refine xP (xA 1 F rfl fun a F=>xJ (xT (oE (xS F rfl (oD F rfl) ?_))));obtain rfl:=oj d;exact⟨rfl,H.bl⟩
 replace d:=vQ x d;refine xL (xF (xP (oH kR F rfl rfl rfl fun a F=>oB isAgg29 F rfl rfl (H.b 4 rfl) rfl fun a F=>oH fR F rfl rfl rfl fun a F=>oB isAgg2 F rfl rfl (H.b 5 rfl) rfl (fun a F=>?_))));obtain⟨z2,c3,d⟩:=xB d;refine oI underlying29 sizeOf51 F rfl rfl rfl h2 c3 fun a p1 h3 F=>oF (s':=1) vW F rfl rfl h3 qD.f1 fun a p2 h4 F=>aY isAgg45 F rfl rfl H.sm h4 fun a v3 h5 F=>iW F rfl rfl rfl (fun a F=>?_);obtain⟨z3,c4,d⟩:=xB d;refine oK F rfl call119 rfl H (kS z3 c4 _ aA (H.a h5) call179 (fun a0 r h W t u0 f0=>impl_Con_allows_1_c r h W aA f0 ((vU.b (H.g 5 rfl).bk i1 (H.a D)).w t) ((c1I (H.g 3 rfl).bk G).w t) ((c1I (H.g 1 rfl).bk S).w t) ((c1I (H.g 2 rfl).bk I).w t) ((c1I (H.g 0 rfl).bk T).w t))) fun a w H F=>xA 1 F rfl fun a F=>xJ (xT (xS F rfl (oD F rfl) ?_));obtain rfl:=oj d;exact⟨rfl,H.bl⟩
def eH (c:Con) (e:Template) (f h:Int) (d:(List Int)):Option Bool:=
 xY (ix d 0) fun i=>
 xY (ix d 1) fun j=>
 xY (dG (Con.mk c.rel c.scope) e f h i j) fun n=>
 some ((!n))
theorem impl_firstPairs_1_1_c {B:Nat→Prop} {t:Con} {x:Template} {y z:Int} {A:(List Int)} (r:Bool) (d:eH t x y z A=some r) {f:Value} {i:Value} {j:Value} {n:Value} {p:Value} (e:World) (G:∀ c,B c→c<e.heap.size) (I:Bo B e (zX 2 vU) f t) (J:Bo B e (Pt 2 xI) i x) (K:Bo B e (Pt 1 xH) j y) (M:Bo B e (Pt 1 xH) n z) (C:Bo B e (Pt 1 (vO 1 xH)) p A):Calls Tryz.prog 164 #[f,i,j,n,p] e (zO (.bool r) e):=by
 unfold eH at d
 refine xV (L:=[(0,f),(1,i),(2,j),(3,n),(4,p)]) func164 rfl rfl rfl (sc rfl (sc rfl (sc rfl (sc rfl (sc rfl sn))))) (fun a F=>?_);have H:=Sep.start G;refine xP ?_;obtain⟨v5,rfl,N,O⟩:=vU.o I;refine oX F rfl rfl rfl H fun a w b1 H F=>xA 1 F rfl fun a F=>xJ (xC (xQ H (by kernel_rfl) (by kernel_rfl) (qBA isAgg119 sizeOf119 F rfl rfl (H.qb 0 rfl) rfl rfl fun a F=>qlA isAgg31 sizeOf31 F rfl rfl H.q J fun a v6 D F=>iB isAgg2 F rfl rfl H.q K fun a P F=>iB isAgg2 F rfl rfl H.q M fun a Q F=>qlS isAgg25 F rfl rfl H.q C (fun a v7 R F=>?_))));obtain⟨z1,S,d⟩:=xB d;refine qI underlying25 sizeOf2 F rfl rfl rfl R S fun a p1 T F=>iB isAgg2 F rfl rfl H.q T fun a U F=>qlS isAgg25 F rfl rfl H.q C (fun a v8 V F=>?_);obtain⟨z2,W,d⟩:=xB d;refine qI underlying25 sizeOf2 F rfl rfl rfl V W fun a p2 X F=>iB isAgg2 F rfl rfl H.q X (fun a E F=>?_);obtain⟨Y,Z,d⟩:=xB d;refine dD F rfl call165 rfl (fun w w' h l=>l.through h) (fun w l=>impl_Con_allows_c Y Z w aA (vU.m N ((H.go l).a O)) ((H.go l).a D) P Q U E) fun a F=>xR F rfl (fun w l=>fW F rfl) fun a F=>xR F rfl (fun w l=>zM F rfl) fun a F=>kA fun w H=>xF (xT (xS F rfl (oD F rfl) ?_));obtain rfl:=oj d;exact⟨rfl,H.bl⟩
def aO (d:List Int) (e:Instance) (f:Template) (h i:Int):Option Bool:=
 xY (zP e.cons (fun j=>eH j f h i d)) fun c=>
 some ((!c))
theorem impl_firstPairs_1_c {B:Nat→Prop} {x:List Int} {y:Instance} {z:Template} {A C:Int} (r:Bool) (e:aO x y z A C=some r) {i:Value} {j:Value} {n:Value} {p:Value} {t:Value} (d:World) (G:∀ c,B c→c<d.heap.size) (D:Bo B d (Sl 1 xH) i x) (I:Bo B d (Pt 2 xO) j y) (J:Bo B d (Pt 2 xI) n z) (K:Bo B d (Pt 1 xH) p A) (M:Bo B d (Pt 1 xH) t C):Calls Tryz.prog 163 #[i,j,n,p,t] d (zO (.bool r) d):=by
 unfold aO at e
 refine xV (L:=[(0,i),(1,j),(2,n),(3,p),(4,t)]) func163 rfl rfl rfl (sc rfl (sc rfl (sc rfl (sc rfl (sc rfl sn))))) (fun a F=>?_);have H:=Sep.start G;refine xP (oX F rfl rfl (one_cells (H.a D).one) H fun a w Q H F=>xA 1 F rfl fun a F=>qO (oF (s':=1) bU F rfl rfl I xO.f1 fun a R N F=>aY isAgg33 F rfl rfl H.sm N fun a S O F=>iW F rfl rfl rfl (fun a F=>?_)));obtain⟨E,P,e⟩:=xB e;refine oK F rfl call91 rfl H (eE E P _ aA (H.a O) call164 (fun T r h W f U f0=>impl_firstPairs_1_1_c r h W aA f0 ((H.a J).w f) ((H.a K).w f) ((H.a M).w f) ((c1S (H.g 0 rfl).bk (H.a D)).w f))) fun a w H F=>xA 2 F rfl fun a F=>xJ (xT (xS F rfl (oD F rfl) ?_));obtain rfl:=oj e;exact⟨rfl,H.bl⟩
def eY (N:Nat) (d c:Int) (h:(List Int)→Option Bool):Option Rel:=
 xY (gH d c) fun i=>
 vT (σ:=(List (List Int))) (
  zH (σ:=(List (List Int))) (ρ:=Rel) (fun(j:Nat) (e:(List (List Int)))=>
   xY (aM N d c (j:Int)) fun f=>
   xY (h f) fun n=>
   if n then
    xY (ap e ([f])) fun p=>
    some (.go p)
   else
    some (.go e)) i.toNat 0 []) fun t=>
 some ((Rel.mk c t))
theorem impl_relOf_c {B:Nat→Prop} {N:Nat} {n e:Int} {T:(List Int)→Option Bool} (r:Rel) (d:eY N n e T=some r) {h:FuncId} {x:List Value} (f:World) (hN:∀ c,B c→c<f.heap.size) (M:xZ n) (G:xZ e) (a1:∀ args w,(callFunc h args).run Tryz.prog w= .ok (.enter h args) w) (a2:∀ (U:List Int) (r:Bool),T U=some r→∀ W,Below f.heap.size f W→∀ (V:Value),Bo (All W) W (Sl 1 xH) V U→Calls Tryz.prog h ([V]++x:List Value).toArray W (zO (.bool r) W)):Calls Tryz.prog 162 #[xG n,xG e,.func (.func h) #[] x.toArray] f (Gv (fun v w'=>∃ (O:Value),v= .agg #[xG r.arity,O]∧Sep [] B f w' [rl 1 (vO 1 xH) 25 O r.tuples]∧xZ r.arity)):=by
 unfold eY at d
 refine xV (L:=[(0,xG n),(1,xG e),(2,.func (.func h) #[] x.toArray)]) func162 rfl rfl rfl (sc rfl (sc rfl (sc rfl sn))) (fun a F=>?_);have H:=Sep.start hN;refine xP (oA zeroValue51 F rfl rfl H fun a w C H F=>qO (xA 1 F rfl fun a F=>kV underlying51 zeroValue51 (fun w=>by simp [sizeOf2,sizeOf45];rfl) F rfl rfl rfl rfl rfl (oc rfl on) rfl rfl fun a F=>oA zeroValue51 F rfl rfl H fun a w D H F=>oWA (vs:=[xG e,aE]) sizeOf51 F rfl rfl rfl H (oc rfl (oc rfl on)) rfl rfl (fun w H=>?_)));refine xJ (xC (xP (xA 2 F rfl fun a F=>?_)));obtain⟨E,c1,d⟩:=xB d;refine oKI F rfl call79 rfl H (gN E c1 _ aA M G) fun a w H P F=>xA 1 F rfl fun a F=>xJ ?_;obtain⟨X,d,a3⟩:=xK d;refine xX (fun a w=>∃ (J:List (List Int)) (i:Value),X= .nx J∧Sk a 33 [(6,vK C),(7,vK D)]∧Sep [] B f w [rl 1 (vO 1 xH) 25 i J,bx D [xG e,i] 51,bx C [xG 0,aE] 51]) ?_ ?_
 ·
  refine xW ?_;obtain⟨a4,a5,d⟩:=zG d;refine oU (fun g a w=>∃ (j:Nat) (p:List (List Int)) (t:Value),j+g=E.toNat∧zH a4 g j p=some X∧Sk a 33 [(15,xG (j:Int)),(0,xG n),(1,xG e),(2,.func (.func h) #[] x.toArray),(6,vK C),(7,vK D),(14,xG E)]∧Sep [] B f w [rl 1 (vO 1 xH) 25 t p,bx D [xG e,t] 51,bx C [xG 0,aE] 51]) E.toNat ?_ ?_
  ·
   exact⟨0,[],aE,(Nat.zero_add _),d,F.su,(H.nl 1 (vO 1 xH) 25)⟩
  intro Y a w ⟨j,p,t,A,d,F,H⟩
  cases Y with
  | zero=>
   replace d:=vY d;have K:=kT A;refine xP (xA 1 F rfl fun a F=>xJ (xC (qT F rfl K (oM (oR (oR (vH ?_)))))));refine xF ?_;exact⟨p,t,(vE d),F.su,H⟩
  | succ Y=>
   obtain⟨ag,d,Q⟩:=vX d;rw[a5] at d;have K:=zW A;refine xP (xA 1 F rfl fun a F=>xJ (xC (qV F rfl K (xL (xF (xC ?_))))));have j1:=k64I A P;have Z:=bC A P;refine xW (xP (xA 2 F rfl fun a F=>qO (xA 2 F rfl fun a F=>?_)));refine xA 1 F rfl fun a F=>?_;obtain⟨z2,c2,d⟩:=xB d;refine oG F rfl call81 rfl (impl_listOf_c z2 c2 _ aA M G j1) (fun a vv w ⟨v3,ah,S⟩ F=>?_);subst vv;have H:=H.r1 S n0;refine xA 1 F rfl fun a F=>qO (xA 2 F rfl fun a F=>?_);obtain⟨z3,c3,d⟩:=xB d;refine oKV F rfl rfl a1 rfl H (a2 _ z3 c3 _ H.bl _ (H.l 0 rfl)) fun a w H F=>xJ (qP F rfl (fun I=>?_) (fun I=>?_))
   ·
    replace d:=vR I d;refine xU (oH vW F rfl rfl rfl fun a F=>oB isAgg45 F rfl rfl (H.b 2 rfl) rfl fun a F=>xA 1 F rfl fun a F=>?_);have H:=H.os;refine oR1L (R:=(vO 1 xH)) (y:=z2) underlying45 sizeOf25 zeroValue25 rfl rfl F rfl rfl H El.sl (fun a w v4 H F=>?_);obtain⟨z4,c4,d⟩:=xB d;refine oPL (sz:=1) (R:=(vO 1 xH)) (z:=(aE)) (bytes:=24) underlying45 (by kernel_rfl) rfl rfl F rfl rfl rfl (H.s [1,0,2,3] rfl rfl) c4 fun a w v5 H F=>oH vW F rfl rfl rfl fun a F=>oW sizeOf45 F rfl rfl rfl (H.s [1,0,2] rfl rfl) ((H.s [1,0,2] rfl rfl).l 1 rfl).one rfl rfl fun w H=>oY (qS (xF (xU (qQ F rfl rfl rfl Z fun a F=>xA 1 F rfl fun a F=>xJ ?_))));replace d:=qX d Q;exact⟨_,Nat.lt_succ_self _,j+1,z4,v5,(by omega),d,F.su,(H.s [1,0,2] rfl rfl)⟩
   replace d:=vQ I d;refine xL (qS (xF (xU (qQ F rfl rfl rfl Z fun a F=>xA 1 F rfl fun a F=>xJ ?_))));replace d:=qX d Q;exact⟨_,Nat.lt_succ_self _,j+1,p,t,(by omega),d,F.su,(H.s [1,2,3] rfl rfl)⟩
 rintro a w ⟨J,i,rfl,F,H⟩
 have d:=xN a3;refine xF (xP (fU isAgg51 sizeOf51 F rfl rfl (H.b 1 rfl) rfl rfl fun a F=>oWA (vs:=[xG e,i]) sizeOf51 F rfl rfl rfl (H.s [2,0,1] rfl rfl) (oc rfl (oc ((H.s [2,0,1] rfl rfl).l 1 rfl).one on)) rfl rfl fun w H=>xJ (xT (xS F rfl (gU (arr:=#[xG e,i]) F isAgg51 sizeOf51 rfl (H.b 0 rfl)) ?_))));obtain rfl:=oj d;exact⟨_,rfl,i,rfl,(H.s [1] rfl rfl),G⟩
def dJ (N:Nat) (c:Template) (d:Instance):Option (List Rel):=
 vT (σ:=(List Rel)) (
  zH (σ:=(List Rel)) (ρ:=(List Rel)) (fun (e:Nat) (h:(List Rel))=>
   vT (σ:=(List Rel)) (
    zH (σ:=(List Rel)) (ρ:=(Ctl ((List Rel)) (List Rel))) (fun (i:Nat) (j:(List Rel))=>
     xY (eY N c.size 2 (fun n=>aO n (Instance.mk d.vars d.cons) (Template.mk c.size c.rels) (i:Int) (e:Int))) fun f=>
     xY (ap j ([(Rel.mk f.arity f.tuples)])) fun p=>
     some (.go p)) (e:Int).toNat 0 h) fun t=>
   some (.go t)) d.vars.toNat 0 []) fun x=>
 some x
theorem impl_firstPairs_c {B:Nat→Prop} {N:Nat} {p:Template} {f:Instance} (r:(List Rel)) (d:dJ N p f=some r) {P:Value} {Q:Value} (i:World) (hN:∀ c,B c→c<i.heap.size) (A0:Bo B i (zX 2 xI) P p) (A1:Bo B i (zX 2 xO) Q f):Calls Tryz.prog 135 #[P,Q] i (Gv (fun v w'=>∃ (a1:Value),v=a1∧Sep [] B i w' [rl 2 qD 51 a1 r])):=by
 unfold dJ at d
 refine xV (L:=[(0,P),(1,Q)]) func135 rfl rfl rfl (sc rfl (sc rfl sn)) (fun a F=>?_);have H:=Sep.start hN;refine xP ?_;obtain⟨T,rfl,i1,h1⟩:=xI.o A0;refine oX F rfl rfl rfl H (fun a w j H F=>?_);obtain⟨O,rfl,U,h2⟩:=xO.o A1;refine oX F rfl rfl rfl H fun a w n H F=>xA 1 F rfl fun a F=>qO (oR0 (R:=qD) underlying29 sizeOf51 F rfl H fun a w v3 H F=>xA 1 F rfl fun a F=>xJ (xC ?_));refine xP (oH kD F rfl rfl rfl fun a F=>oB isAgg2 F rfl rfl (H.b 1 rfl) rfl fun a F=>xA 1 F rfl fun a F=>xJ ?_);obtain⟨o1,d,a8⟩:=xK d;refine xX (fun a w=>∃ (V:List Rel) (E:Value),o1= .nx V∧Sk a 28 [(5,E)]∧Sep [] B i w [rl 2 qD 51 E V]) ?_ ?_
 ·
  refine xW ?_;obtain⟨a9,aa,d⟩:=zG d;refine oU (fun g a w=>∃ (e:Nat) (t:List Rel) (x:Value),e+g=f.vars.toNat∧zH a9 g e t=some o1∧Sk a 28 [(11,xG (e:Int)),(2,vK j),(3,vK n),(5,x),(10,xG f.vars)]∧Sep [] B i w [rl 2 qD 51 x t,bx n [xG f.vars,O] 35,bx j [xG p.size,T] 31]) f.vars.toNat ?_ ?_
  ·
   exact⟨0,[],v3,(Nat.zero_add _),d,F.su,H⟩
  intro g1 a w ⟨e,t,x,C,d,F,H⟩
  cases g1 with
  | zero=>
   replace d:=vY d;have X:=kT C;refine xP (xA 1 F rfl fun a F=>xJ (xC (qT F rfl X (oM (oR (oR (vH ?_)))))));refine xF ?_;exact⟨t,x,(vE d),F.su,(H.s [0] rfl rfl)⟩
  | succ g1=>
   obtain⟨ay,d,ab⟩:=vX d;rw[aa] at d;have X:=zW C;refine xP (xA 1 F rfl fun a F=>xJ (xC (qV F rfl X (xL (xF (xC ?_))))));have Y:=k64I C U;have m1:=bC C U;refine xW (xP (xA 1 F rfl fun a F=>oA zeroValue2 F rfl rfl H fun a w b3 H F=>oW sizeOf2 F rfl rfl rfl H rfl rfl rfl fun w H=>qO (oB isAgg2 F rfl rfl (H.b 0 rfl) rfl (fun a F=>?_))));refine xA 1 F rfl fun a F=>xJ ?_;obtain⟨o2,d,ac⟩:=xK d;refine xX (fun a w=>∃ (G:List Rel) (I:Value),o2= .nx G∧Sk a 28 [(2,vK j),(3,vK n),(5,I),(10,xG f.vars),(11,xG (e:Int))]∧Sep [] B i w [rl 2 qD 51 I G,bx n [xG f.vars,O] 35,bx j [xG p.size,T] 31]) ?_ ?_
   ·
    refine xW ?_;obtain⟨ad,ae,d⟩:=zG d;refine oU (fun g a w=>∃ (A:Nat) (J:List Rel) (K:Value),A+g=(e:Int).toNat∧zH ad g A J=some o2∧Sk a 28 [(15,xG (A:Int)),(2,vK j),(3,vK n),(5,K),(6,vK b3),(10,xG f.vars),(11,xG (e:Int)),(14,xG (e:Int))]∧Sep [] B i w [bx b3 [xG (e:Int)] 2,rl 2 qD 51 K J,bx n [xG f.vars,O] 35,bx j [xG p.size,T] 31]) (e:Int).toNat ?_ ?_
    ·
     exact⟨0,t,x,(Nat.zero_add _),d,F.su,H⟩
    intro g2 a w ⟨A,J,K,D,d,F,H⟩
    cases g2 with
    | zero=>
     replace d:=vY d;have Z:=kT D;refine xP (xA 1 F rfl fun a F=>xJ (xC (qT F rfl Z (oM (oR (oR (vH ?_)))))));refine xF ?_;exact⟨J,K,(vE d),F.su,(H.s [1,2,3] rfl rfl)⟩
    | succ g2=>
     obtain⟨az,d,af⟩:=vX d;rw[ae] at d;have Z:=zW D;refine xP (xA 1 F rfl fun a F=>xJ (xC (qV F rfl Z (xL (xF (xC ?_))))));have j2:=k64I D Y;have m2:=bC D Y;refine xW (xP (xA 1 F rfl fun a F=>oA zeroValue2 F rfl rfl H fun a w b4 H F=>oW sizeOf2 F rfl rfl rfl H rfl rfl rfl fun w H=>xJ (xU (xA 1 F rfl fun a F=>oH dA F rfl rfl rfl (fun a F=>?_)))));refine oB isAgg2 F rfl rfl (H.b 4 rfl) rfl fun a F=>iW F rfl rfl rfl (fun a F=>?_);obtain⟨z1,c1,d⟩:=xB d;refine oG F rfl call162 rfl (impl_relOf_c z1 c1 _ aA i1 (show xZ (2) by decide) call163 (fun a0 r h W M u0 f0=>impl_firstPairs_1_c r h W aA f0 ((xO.b (H.g 3 rfl).bk U (H.a h2)).w M) ((xI.b (H.g 4 rfl).bk i1 (H.a h1)).w M) ((c1I (H.g 0 rfl).bk j2).w M) ((c1I (H.g 1 rfl).bk Y).w M))) (fun a vv w ⟨v8,b0,S,i3⟩ F=>?_);subst vv;have H:=H.r1 S n0;have H:=(qD.w i3 H);refine oR1L (R:=qD) (y:=(Rel.mk z1.arity z1.tuples)) underlying29 sizeOf51 zeroValue51 rfl rfl F rfl rfl H El.agg (fun a w v9 H F=>?_);obtain⟨z2,c2,d⟩:=xB d;refine oPL (sz:=2) (R:=qD) (z:=(.agg #[xG 0,aE])) (bytes:=32) underlying29 (by kernel_rfl) rfl rfl F rfl rfl rfl (H.s [3,0,1,2,4,5] rfl rfl) c2 fun a w ag H F=>xA 1 F rfl fun a F=>oY (qS (xF (xU (qQ F rfl rfl rfl m2 fun a F=>xA 1 F rfl fun a F=>xJ ?_))));replace d:=qX d af;exact⟨_,Nat.lt_succ_self _,A+1,z2,ag,(by omega),d,F.su,(H.s [2,0,3,4] rfl rfl)⟩
   rintro a w ⟨G,I,rfl,F,H⟩
   have d:=xN ac;refine qS (xF (xU (qQ F rfl rfl rfl m1 fun a F=>xA 1 F rfl fun a F=>xJ ?_)));replace d:=qX d ab;exact⟨_,Nat.lt_succ_self _,e+1,G,I,(by omega),d,F.su,H⟩
 rintro a w ⟨V,E,rfl,F,H⟩
 have d:=xN a8;refine xF (xP (xA 2 F rfl fun a F=>xJ (xT (xS F rfl (oD F rfl) ?_))));obtain rfl:=oj d;exact⟨_,rfl,E,rfl,H⟩
def eP (c d:Int):Option Int:=
 xY (ck ((if c<d then d else c) - 1)) fun e=>
 xY (ck ((if c<d then d else c)*e)) fun f=>
 xY (dv f 2) fun h=>
 xY (ck (h+(if d<c then d else c))) fun i=>
 some i
theorem impl_pairIndex_c {B:Nat→Prop} {e f:Int} (r:Int) (d:eP e f=some r)  (h:World) (n:∀ c,B c→c<h.heap.size) (x:xZ e) (y:xZ f):Calls Tryz.prog 137 #[xG e,xG f] h (dW r h):=by
 unfold eP at d
 refine xV (L:=[(0,xG e),(1,xG f)]) func137 rfl rfl rfl (sc rfl (sc rfl sn)) (fun a F=>?_);have H:=Sep.start n;refine xP (xA 1 F rfl fun a F=>qO (xA 2 F rfl fun a F=>o_min F rfl rfl rfl fun a F=>xA 1 F rfl fun a F=>?_));refine xA 1 F rfl fun a F=>o_max F rfl rfl rfl fun a F=>xA 2 F rfl fun a F=>qO (xA 2 F rfl fun a F=>?_);obtain⟨z,p,d⟩:=xB d;refine iS F rfl rfl rfl p (fun a F=>?_);obtain⟨A,t,d⟩:=xB d;refine o_mul F rfl rfl rfl t (fun a F=>?_);obtain⟨C,j,d⟩:=xB d;refine o_quo F rfl rfl rfl j fun a F=>xA 1 F rfl fun a F=>?_;obtain⟨D,i,d⟩:=xB d;refine kI F rfl rfl rfl i fun a F=>xA 1 F rfl fun a F=>xJ (xT (xS F rfl (oD F rfl) ?_));obtain rfl:=oj d;exact⟨⟨rfl,H.bl⟩,(kG i)⟩
def gJ (N:Nat) (h:List Rel) (c d e f:Int):Option Bool:=
 vT (σ:=Int×Int×Int×Int) (
  if (decide (d<c)) then
   some (.nx (d,c,f,e))
  else
   some (.nx (c,d,e,f))) fun(i,j,n,p)=>
 xY (eP i j) fun t=>
 xY (ix h t) fun x=>
 xY (dX N x ([n,p])) fun y=>
 some y
theorem impl_isLeft_c {B:Nat→Prop} {N:Nat} {G:List Rel} {e f h i:Int} (r:Bool) (d:gJ N G e f h i=some r) {t:Value} (j:World) (K:∀ c,B c→c<j.heap.size) (M:Bo B j (Sl 2 qD) t G) (A:xZ e) (C:xZ f) (D:xZ h) (E:xZ i):Calls Tryz.prog 104 #[t,xG e,xG f,xG h,xG i] j (zO (.bool r) j):=by
 unfold gJ at d
 refine xV (L:=[(0,t),(1,xG e),(2,xG f),(3,xG h),(4,xG i)]) func104 rfl rfl rfl (sc rfl (sc rfl (sc rfl (sc rfl (sc rfl sn))))) (fun a F=>?_);have H:=Sep.start K;refine xP (xA 1 F rfl fun a F=>xJ (xC (xP (xA 3 F rfl fun a F=>?_))));refine xJ ?_;obtain⟨O,d,I⟩:=xK d;refine xX (fun a w=>∃ (x y n p:Int),O= .nx (x,y,n,p)∧Sk a 28 [(0,t),(1,xG x),(2,xG y),(3,xG n),(4,xG p)]∧Sep [] B j w []∧xZ x∧xZ y∧xZ n∧xZ p) ?_ ?_
 ·
  refine qP F rfl (fun z=>?_) (fun z=>?_)
  ·
   replace d:=vR z d;refine xU (xA 8 F rfl fun a F=>xJ ?_);exact⟨f,e,i,h,(vE d),F.su,H,C,A,E,D⟩
  replace d:=vQ z d;refine xL (xF ?_);exact⟨e,f,h,i,(vE d),F.su,H,A,C,D,E⟩
 rintro a w ⟨x,y,n,p,rfl,F,H,J,P,Q,R⟩
 have d:=xN I;refine xF (xP (xA 3 F rfl fun a F=>?_));obtain⟨S,T,d⟩:=xB d;refine oKI F rfl call137 rfl H (impl_pairIndex_c S T _ aA J P) (fun a w H Z F=>?_);obtain⟨z2,U,d⟩:=xB d;refine oI underlying29 sizeOf51 F rfl rfl rfl M U fun a p1 V F=>olA isAgg51 sizeOf51 F rfl rfl H.sm V fun a v1 W F=>xA 2 F rfl fun a F=>oRI (xs:=[.tmp 24,.tmp 25]) (l:=[n,p]) underlying25 sizeOf2 zeroValue2 rfl F rfl rfl rfl rfl rfl rfl (by simp only[List.forall_mem_cons,List.not_mem_nil,false_implies,implies_true,and_true];exact⟨Q,R⟩) H (fun a w a0 H F=>?_);obtain⟨X,Y,d⟩:=xB d;refine oK F rfl call138 rfl H (iR X Y _ aA (H.a W) (H.l 0 rfl)) fun a w H F=>xA 1 F rfl fun a F=>xJ (xT (xS F rfl (oD F rfl) ?_));obtain rfl:=oj d;exact⟨rfl,H.bl⟩
def fK (N:Nat) (d:List Int) (e:(List Rel)) (h n:Int) (c:PairStep):Option Bool:=
 xY (ix e h) fun p=>
 xY (dX N p d) fun t=>
 if (!t) then
  some false
 else
  vT (σ:=Unit) (
   zH (σ:=Unit) (ρ:=Bool) (fun (f:Nat) (s:Unit)=>
     match s with
     | _=>
     vT (σ:=Bool) (
      xY (ix d 0) fun x=>
      xY (gJ N e c.i c.through x (f:Int)) fun y=>
      if y then  xY (ix d 1) fun z=>
       xY (gJ N e c.through c.j (f:Int) z) fun A=>
       some (.nx A) else  some (.nx false)) fun B=>
     if B then
      some (.ret true)
     else
      some (.go ())) n.toNat 0 ()) fun _=>
  some false
theorem impl_narrow_1_c {B:Nat→Prop} {N:Nat} {O:List Int} {P:(List Rel)} {Q f:Int} {R:PairStep} (r:Bool) (d:fK N O P Q f R=some r) {n:Value} {p:Value} {C:Value} {D:Value} {t:Value} (e:World) (hN:∀ c,B c→c<e.heap.size) (E:Bo B e (Sl 1 xH) n O) (G:Bo B e (Pt 1 (vO 2 qD)) p P) (A2:Bo B e (Pt 1 xH) C Q) (A3:Bo B e (Pt 1 xH) D f) (y:Bo B e (Pt 3 oQ) t R):Calls Tryz.prog 166 #[n,p,C,D,t] e (zO (.bool r) e):=by
 unfold fK at d
 refine xV (L:=[(0,n),(1,p),(2,C),(3,D),(4,t)]) func166 rfl rfl rfl (sc rfl (sc rfl (sc rfl (sc rfl (sc rfl sn))))) (fun a F=>?_);have H:=Sep.start hN;refine xP (xA 1 F rfl fun a F=>xJ (xC (xP (aY isAgg29 F rfl rfl H.sm G fun a v5 h1 F=>aN isAgg2 F rfl rfl H.sm A2 (fun a i1 F=>?_)))));obtain⟨z1,c1,d⟩:=xB d;refine oI underlying29 sizeOf51 F rfl rfl rfl h1 c1 fun a ax h2 F=>olA isAgg51 sizeOf51 F rfl rfl H.sm h2 fun a v6 h3 F=>xA 1 F rfl fun a F=>?_;obtain⟨z2,c2,d⟩:=xB d;refine oK F rfl call138 rfl H (iR z2 c2 _ aA (H.a h3) (H.a E)) fun a w H F=>xA 1 F rfl fun a F=>xJ (qP F rfl (fun z=>?_) (fun z=>?_))
 ·
  replace d:=vR z d;refine xP (xA 1 F rfl fun a F=>xJ (xT (oE (xS F rfl (oD F rfl) ?_))));obtain rfl:=oj d;exact⟨rfl,H.bl⟩
 replace d:=vQ z d;refine xL (xF (xC (xP (aN isAgg2 F rfl rfl H.sm A3 fun a S F=>xA 1 F rfl fun a F=>xJ ?_))));obtain⟨T,d,K⟩:=xK d;refine xX (fun a w=>T= .nx ()∧Sk a 42 []∧Sep [] B e w []) ?_ ?_
 ·
  refine xW ?_;obtain⟨Y,Z,d⟩:=zG d;refine oU (fun g a w=>∃ (i:Nat),i+g=f.toNat∧zH Y g i ()=some T∧Sk a 42 [(16,xG (i:Int)),(0,n),(1,p),(4,t),(15,xG f)]∧Sep [] B e w []) f.toNat ?_ ?_
  ·
   exact⟨0,(Nat.zero_add _),d,F.su,H⟩
  intro U a w ⟨i,x,d,F,H⟩
  cases U with
  | zero=>
   replace d:=vY d;have I:=kT x;refine xP (xA 1 F rfl fun a F=>xJ (xC (qT F rfl I (oM (oR (oR (vH ?_)))))));refine xF ?_;exact⟨(vE d),F.sub sn,H⟩
  | succ U=>
   obtain⟨ay,d,M⟩:=vX d;rw[Z] at d;have I:=zW x;refine xP (xA 1 F rfl fun a F=>xJ (xC (qV F rfl I (xL (xF (xC ?_))))));have V:=k64I x S;have m1:=bC x S;refine xW (xP (xA 2 F rfl fun a F=>xJ (xC ?_)));obtain⟨o2,d,a0⟩:=xK d;refine xX (fun a w=>∃ (J:Bool),o2= .nx J∧Sk a 42 [(0,n),(1,p),(4,t),(15,xG f),(16,xG (i:Int)),(40,.bool J)]∧Sep [] B e w []) ?_ ?_
   ·
    refine xQ H (by kernel_rfl) (by kernel_rfl) (qlS isAgg29 F rfl rfl H.q G fun a v7 h4 F=>qF (s':=1) fa186_0 F rfl rfl y oQ.f0 fun a p1 h5 F=>iB isAgg2 F rfl rfl H.q h5 fun a i3 F=>qF (s':=1) fa186_2 F rfl rfl y oQ.f2 fun a p2 h6 F=>iB isAgg2 F rfl rfl H.q h6 fun a i4 F=>xR F rfl (fun w l=>xM F rfl) (fun a F=>?_));obtain⟨z3,c3,d⟩:=xB d;refine qI underlying25 sizeOf2 F rfl rfl rfl E c3 fun a p3 h7 F=>iB isAgg2 F rfl rfl H.q h7 fun a i5 F=>xR F rfl (fun w l=>xM F rfl) (fun a F=>?_);obtain⟨W,c4,d⟩:=xB d;refine dD F rfl call104 rfl (fun w w' h l=>l.through h) (fun w l=>impl_isLeft_c W c4 w aA ((H.go l).a h4) i3 i4 i5 V) fun a F=>xR F rfl (fun w l=>xM F rfl) (fun a F=>?_)
    rcases qU W with j | j
    ·
     replace d:=vR j d;have F:=F.eb 29 rfl j;refine qlS isAgg29 F rfl rfl H.q G fun a v8 h8 F=>qF (s':=1) fa186_2 F rfl rfl y oQ.f2 fun a p4 h9 F=>iB isAgg2 F rfl rfl H.q h9 fun a i6 F=>qF (s':=1) fa186_1 F rfl rfl y oQ.f1 fun a p5 a1 F=>iB isAgg2 F rfl rfl H.q a1 fun a i7 F=>xR F rfl (fun w l=>xM F rfl) fun a F=>xR F rfl (fun w l=>xM F rfl) (fun a F=>?_);obtain⟨z5,c5,d⟩:=xB d;refine qI underlying25 sizeOf2 F rfl rfl rfl E c5 fun a p6 a2 F=>iB isAgg2 F rfl rfl H.q a2 (fun a i8 F=>?_);obtain⟨X,c6,d⟩:=xB d;refine dD F rfl call104 rfl (fun w w' h l=>l.through h) (fun w l=>impl_isLeft_c X c6 w aA ((H.go l).a h8) i6 i7 V i8) fun a F=>xR F rfl (fun w l=>aU F rfl rfl) fun a F=>kA fun w H=>xF ?_;exact⟨X,(vE d),F.su,H⟩
    replace d:=vQ j d;have F:=F.eb 29 rfl j;refine qK F rfl rfl fun a F=>qK F rfl rfl fun a F=>qK F rfl rfl fun a F=>qK F rfl rfl fun a F=>qK F rfl rfl fun a F=>qK F rfl rfl fun a F=>qK F rfl rfl fun a F=>qK F rfl rfl fun a F=>qK F rfl rfl fun a F=>qK F rfl rfl fun a F=>xR F rfl (fun w l=>aF F rfl rfl) (fun a F=>?_);refine kA fun w H=>xF ?_;exact⟨false,(vE d),F.su,H⟩
   rintro a w ⟨J,rfl,F,H⟩
   have d:=xN a0;refine xF (qP F rfl (fun A=>?_) (fun A=>?_))
   ·
    replace d:=vR A d;refine xP (xA 1 F rfl fun a F=>xJ (xT (vJ (oE (oE ?_)))));replace d:=zR d M;refine vJ (oE ?_);replace d:=zQ d K;refine oE (xS F rfl (oD F rfl) ?_);obtain rfl:=oj d;exact⟨rfl,H.bl⟩
   replace d:=vQ A d;refine xL (qS (xF (xU (qQ F rfl rfl rfl m1 fun a F=>xA 1 F rfl fun a F=>xJ ?_))));replace d:=qX d M;exact⟨_,Nat.lt_succ_self _,i+1,(by omega),d,F.su,H⟩
 rintro a w ⟨rfl,F,H⟩
 have d:=xN K;refine xF (xP (xA 1 F rfl fun a F=>xJ (xT (xS F rfl (oD F rfl) ?_))));obtain rfl:=oj d;exact⟨rfl,H.bl⟩
def gB (N:Nat) (h:Int) (d:List Rel) (c:PairStep):Option (Bool×(List Rel)):=
 xY (eP c.i c.j) fun e=>
 xY (eY N h 2 (fun n=>fK N n d e h (PairStep.mk c.i c.j c.through))) fun f=>
 xY (ix d e) fun p=>
 if ((f.tuples.length:Int)==(p.tuples.length:Int)) then
  some (false,d)
 else
  some (true,(d.set (e).toNat (Rel.mk f.arity f.tuples)))
theorem impl_narrow_c {B:Nat→Prop} {N:Nat} {i:Int} {A:List Rel} {C:PairStep} (r:Bool×(List Rel)) (d:gB N i A C=some r) {j:Value} {t:Value} {D:List Nat} (f:World) (hN:∀ c,B c→c<f.heap.size) (M:Sep D B f f [rw N0 2 qD 51 j A]) (z:xZ i) (O:Bo B f (zX 3 oQ) t C):Calls Tryz.prog 136 #[xG i,j,t] f (Gv (fun v w'=>v= .bool r.1∧Sep D B f w' [rw N0 2 qD 51 j r.2])):=by
 unfold gB at d
 refine xV (L:=[(0,xG i),(1,j),(2,t)]) func136 rfl rfl rfl (sc rfl (sc rfl (sc rfl sn))) (fun a F=>?_);have H:=M;refine xP (oX F rfl rfl rfl H fun a w b1 H F=>oX F rfl rfl (one_cells (H.r 1 rfl).one) H (fun a w b2 H F=>?_));obtain⟨rfl,E,G,P⟩:=oQ.o O;refine oX F rfl rfl rfl H fun a w b16 H F=>xA 1 F rfl fun a F=>qO (oH fa186_0 F rfl rfl rfl fun a F=>oB isAgg2 F rfl rfl (H.b 0 rfl) rfl fun a F=>oH fa186_1 F rfl rfl rfl fun a F=>oB isAgg2 F rfl rfl (H.b 0 rfl) rfl (fun a F=>?_));obtain⟨Q,R,d⟩:=xB d;refine oKI F rfl call137 rfl H (impl_pairIndex_c Q R _ aA E G) fun a w H J F=>oA zeroValue2 F rfl rfl H fun a w b3 H F=>oW sizeOf2 F rfl rfl rfl H rfl rfl rfl fun w H=>qO (oB isAgg2 F rfl rfl (H.b 3 rfl) rfl fun a F=>iW F rfl rfl rfl (fun a F=>?_));obtain⟨x,T,d⟩:=xB d;refine oG F rfl call162 rfl (impl_relOf_c x T _ aA z (show xZ (2) by decide) call166 (fun a0 r h W n u0 f0=>impl_narrow_1_c r h W aA f0 ((c1S (H.g 2 rfl).bk (H.r 4 rfl)).w n) ((c1I (H.g 0 rfl).bk J).w n) ((c1I (H.g 3 rfl).bk z).w n) ((oQ.b (H.g 1 rfl).bk E G P).w n))) (fun a U w ⟨I,a1,S,V⟩ F=>?_);subst U;have H:=H.r1 S n0;refine oA zeroValue51 F rfl rfl H fun a w b4 H F=>oWA (vs:=[xG x.arity,I]) sizeOf51 F rfl rfl rfl H (oc rfl (oc (H.l 1 rfl).one on)) rfl rfl fun w H=>xJ (xC (xC (xQ H (by kernel_rfl) (by kernel_rfl) (xR F rfl (fun w l=>vG vW F rfl rfl) fun a F=>qB isAgg45 F rfl rfl (H.qb 0 rfl) rfl fun a F=>qL underlying45 F rfl rfl (H.l 1 rfl) fun a i5 F=>qB isAgg29 F rfl rfl (H.qb 4 rfl) rfl (fun a F=>?_)))));refine qB isAgg2 F rfl rfl (H.qb 2 rfl) rfl (fun a F=>?_);obtain⟨z3,y,d⟩:=xB d;refine qI underlying29 sizeOf51 F rfl rfl rfl (H.r 6 rfl) y fun a p1 X F=>qF (s':=1) vW F rfl rfl X qD.f1 fun a a2 Y F=>qlS isAgg45 F rfl rfl qA Y fun a v4 Z F=>qL underlying45 F rfl rfl Z fun a i6 F=>xR F rfl (fun w l=>r_eql F rfl rfl) fun a F=>kA fun w H=>xF (qP F rfl (fun p=>?_) (fun p=>?_))
 ·
  replace d:=vR p d;refine xP (xA 1 F rfl fun a F=>xJ (xT (oE (xS F rfl (oD F rfl) ?_))));obtain rfl:=oj d;exact⟨_,rfl,rfl,(H.s [6] rfl rfl)⟩
 replace d:=vQ p d;refine xL (xF (xP (oB isAgg29 F rfl rfl (H.b 4 rfl) rfl fun a F=>oB isAgg2 F rfl rfl (H.b 2 rfl) rfl fun a F=>fU isAgg51 sizeOf51 F rfl rfl (H.b 0 rfl) rfl rfl fun a F=>oRi underlying29 sizeOf51 F rfl rfl rfl H 6 rfl y fun a p2 h4 K F=>oSX (vs:=[xG x.arity,I]) F rfl rfl rfl (.inl ⟨sizeOf51,rfl,(oc rfl (oc ((H.s [6,1,0,2,3,4,5] rfl rfl).l 1 rfl).one on))⟩) (H.s [6,1,0,2,3,4,5] rfl rfl) (RPt.o K) (ix_get y) n0 (fun e q=>(Eo.agg (qD.m V q.ld)).tn) rfl fun w H=>xJ ?_)));refine xP (xA 1 F rfl fun a F=>xJ (xT (xS F rfl (oD F rfl) ?_)));obtain rfl:=oj d;exact⟨_,rfl,rfl,(H.s [0] rfl rfl)⟩
def cY (N:Nat) (h:Template) (c:Instance):Option ((List Rel)×(List PairStep)):=
 xY (dJ N (Template.mk h.size h.rels) (Instance.mk c.vars c.cons)) fun M=>
 vT (σ:=(List PairStep)×Bool×(List Rel)) (
  cF (σ:=(List PairStep)×Bool×(List Rel)) (ρ:=(List Rel)×(List PairStep)) (fun(s:(List PairStep)×Bool×(List Rel))=>
    match s with
    | (p,t,x)=>
    if t then
     vT (σ:=(List PairStep)×Bool×(List Rel)) (
      zH (σ:=(List PairStep)×Bool×(List Rel)) (ρ:=(Ctl ((List PairStep)×Bool×(List Rel)) ((List Rel)×(List PairStep)))) (fun (d:Nat) (s:(List PairStep)×Bool×(List Rel))=>
        match s with
        | (O,P,Q)=>
        vT (σ:=(List PairStep)×Bool×(List Rel)) (
         zH (σ:=(List PairStep)×Bool×(List Rel)) (ρ:=(Ctl ((List PairStep)×Bool×(List Rel)) (Ctl ((List PairStep)×Bool×(List Rel)) ((List Rel)×(List PairStep))))) (fun (i:Nat) (s:(List PairStep)×Bool×(List Rel))=>
           match s with
           | (R,S,T)=>
           vT (σ:=(List PairStep)×Bool×(List Rel)) (
            zH (σ:=(List PairStep)×Bool×(List Rel)) (ρ:=(Ctl ((List PairStep)×Bool×(List Rel)) (Ctl ((List PairStep)×Bool×(List Rel)) (Ctl ((List PairStep)×Bool×(List Rel)) ((List Rel)×(List PairStep)))))) (fun (e:Nat) (s:(List PairStep)×Bool×(List Rel))=>
              match s with
              | (j,z,f)=>
              vT (σ:=(List Rel)×Bool) (
               if ((e:Int) != (i:Int)) then  if ((e:Int) != (d:Int)) then  xY (gB N h.size f (PairStep.mk (i:Int) (d:Int) (e:Int))) fun y=>
                 some (.nx (y.2,y.1)) else  some (.nx (f,false)) else  some (.nx (f,false))) fun(n,A)=>
              if A then
               xY (ap j ([(PairStep.mk (i:Int) (d:Int) (e:Int))])) fun U=>
               some (.go (U,true,n))
              else
               some (.go (j,z,n))) c.vars.toNat 0 (R,S,T)) fun(B,C,D)=>
           some (.go (B,C,D))) (d:Int).toNat 0 (O,P,Q)) fun(E,F,G)=>
        some (.go (E,F,G))) c.vars.toNat 0 (p,false,x)) fun(H,I,J)=>
     some (.go (H,I,J))
    else
     some (.brk (p,t,x))) N ([],true,M)) fun(K,V,L)=>
 some (L,K)
theorem impl_makePairs_c {B:Nat→Prop} {N:Nat} {t:Template} {f:Instance} (r:(List Rel)×(List PairStep)) (d:cY N t f=some r) {v0:Value} {v1:Value} (n:World) (hN:∀ c,B c→c<n.heap.size) (A0:Bo B n (zX 2 xI) v0 t) (A1:Bo B n (zX 2 xO) v1 f):Calls Tryz.prog 100 #[v0,v1] n (Gv (fun v w'=>∃ (b9 ba:Value),v= .tuple #[b9,ba]∧Sep [] B n w' [rw N0 2 qD 51 b9 r.1,rl 3 oQ 186 ba r.2])):=by
 unfold cY at d
 refine xV (L:=[(0,v0),(1,v1)]) func100 rfl rfl rfl (sc rfl (sc rfl sn)) (fun a F=>?_);have H:=Sep.start hN;refine xP ?_;obtain⟨A,rfl,i1,h1⟩:=xI.o A0;refine oX F rfl rfl rfl H (fun a w h H F=>?_);obtain⟨x,rfl,i2,h2⟩:=xO.o A1;refine oX F rfl rfl rfl H fun a w i H F=>xA 2 F rfl fun a F=>qO (fU isAgg31 sizeOf31 F rfl rfl (H.b 1 rfl) rfl rfl fun a F=>fU isAgg35 sizeOf35 F rfl rfl (H.b 0 rfl) rfl rfl (fun a F=>?_));obtain⟨z1,c1,d⟩:=xB d;refine oG F rfl call135 rfl (impl_firstPairs_c z1 c1 _ aA (xI.m i1 (H.a h1)) (xO.m i2 (H.a h2))) (fun a vv w ⟨v3,cu,S⟩ F=>?_);subst vv;have H:=H.r1 S n0;refine xA 1 F rfl fun a F=>qO (oR0 (R:=oQ) underlying142 sizeOf186 F rfl H fun a w v4 H F=>xA 1 F rfl fun a F=>xJ (xC (xC ?_)));refine xU (xA 1 F rfl fun a F=>xJ ?_);obtain⟨o1,d,bu⟩:=xK d;refine xX (fun a w=>∃ (s1:List PairStep) (v5:Value) (s2:Bool) (s3:List Rel) (v6:Value),o1= .nx (s1,s2,s3)∧Sk a 60 [(6,v6),(7,v5)]∧Sep [] B n w [rl 3 oQ 186 v5 s1,rw N0 2 qD 51 v6 s3]) ?_ ?_
 ·
  refine xW ?_;obtain⟨bv,bw,d⟩:=kU d;refine oU (fun g a w=>∃ (s4:List PairStep) (v7:Value) (s5:Bool) (s6:List Rel) (v8:Value),cF bv g (s4,s5,s6)=some o1∧Sk a 60 [(2,vK h),(3,vK i),(6,v8),(7,v7),(8,.bool s5)]∧Sep [] B n w [rl 3 oQ 186 v7 s4,rw N0 2 qD 51 v8 s6,bx i [xG f.vars,x] 35,bx h [xG t.size,A] 31]) N ?_ ?_
  ·
   exact⟨[],v4,true,z1,v3,d,F.su,((H.s [1,0,2,3] rfl rfl).lw.s [1,0,2,3] rfl rfl)⟩
  intro g1 a w ⟨s4,v7,s5,s6,v8,d,F,H⟩;obtain⟨cv,t1,cw,d,bb⟩:=zK d;rw[bw] at d;refine xC (xP (xA 1 F rfl fun a F=>xJ (qP F rfl (fun ay=>?_) (fun ay=>?_))))
  ·
   replace d:=vR ay d;refine xL (xF (xW (xP (xA 1 F rfl fun a F=>qO (oH kD F rfl rfl rfl (fun a F=>?_))))));refine oB isAgg2 F rfl rfl (H.b 2 rfl) rfl fun a F=>xA 1 F rfl fun a F=>xJ ?_;obtain⟨o2,d,c0⟩:=xK d;refine xX (fun a w=>∃ (s7:List PairStep) (v9:Value) (s8:Bool) (s9:List Rel) (a7:Value),o2= .nx (s7,s8,s9)∧Sk a 60 [(2,vK h),(3,vK i),(6,a7),(7,v9),(8,.bool s8)]∧Sep [] B n w [rl 3 oQ 186 v9 s7,rw N0 2 qD 51 a7 s9,bx i [xG f.vars,x] 35,bx h [xG t.size,A] 31]) ?_ ?_
   ·
    refine xW ?_;obtain⟨fl2,hf2,d⟩:=zG d;refine oU (fun g a w=>∃ (e:Nat) (J:List PairStep) (M:Value) (O:Bool) (P:List Rel) (Q:Value),e+g=f.vars.toNat∧zH fl2 g e (J,O,P)=some o2∧Sk a 60 [(20,xG (e:Int)),(2,vK h),(3,vK i),(6,Q),(7,M),(8,.bool O),(19,xG f.vars)]∧Sep [] B n w [rl 3 oQ 186 M J,rw N0 2 qD 51 Q P,bx i [xG f.vars,x] 35,bx h [xG t.size,A] 31]) f.vars.toNat ?_ ?_
    ·
     exact⟨0,s4,v7,false,s6,v8,(Nat.zero_add _),d,F.su,H⟩
    intro g2 a w ⟨e,J,M,O,P,Q,a8,d,F,H⟩
    cases g2 with
    | zero=>
     replace d:=vY d;have l1:=kT a8;refine xP (xA 1 F rfl fun a F=>xJ (xC (qT F rfl l1 (oM (oR (oR (vH ?_)))))));refine xF ?_;exact⟨J,M,O,P,Q,(vE d),F.su,H⟩
    | succ g2=>
     obtain⟨cx,d,hn2⟩:=vX d;rw[hf2] at d;have l1:=zW a8;refine xP (xA 1 F rfl fun a F=>xJ (xC (qV F rfl l1 (xL (xF (xC ?_))))));have j1:=k64I a8 i2;have m1:=bC a8 i2;refine xW (xP (xA 2 F rfl fun a F=>qO (xA 2 F rfl fun a F=>?_)));refine xJ ?_;obtain⟨o3,d,c4⟩:=xK d;refine xX (fun a w=>∃ (a9:List PairStep) (aa:Value) (ab:Bool) (ac:List Rel) (ad:Value),o3= .nx (a9,ab,ac)∧Sk a 60 [(2,vK h),(3,vK i),(6,ad),(7,aa),(8,.bool ab),(19,xG f.vars),(20,xG (e:Int))]∧Sep [] B n w [rl 3 oQ 186 aa a9,rw N0 2 qD 51 ad ac,bx i [xG f.vars,x] 35,bx h [xG t.size,A] 31]) ?_ ?_
     ·
      refine xW ?_;obtain⟨c5,c6,d⟩:=zG d;refine oU (fun g a w=>∃ (j:Nat) (T:List PairStep) (U:Value) (V:Bool) (W:List Rel) (X:Value),j+g=(e:Int).toNat∧zH c5 g j (T,V,W)=some o3∧Sk a 60 [(24,xG (j:Int)),(2,vK h),(3,vK i),(6,X),(7,U),(8,.bool V),(9,xG (e:Int)),(19,xG f.vars),(20,xG (e:Int)),(23,xG (e:Int))]∧Sep [] B n w [rl 3 oQ 186 U T,rw N0 2 qD 51 X W,bx i [xG f.vars,x] 35,bx h [xG t.size,A] 31]) (e:Int).toNat ?_ ?_
      ·
       exact⟨0,J,M,O,P,Q,(Nat.zero_add _),d,F.su,H⟩
      intro g3 a w ⟨j,T,U,V,W,X,ae,d,F,H⟩
      cases g3 with
      | zero=>
       replace d:=vY d;have l2:=kT ae;refine xP (xA 1 F rfl fun a F=>xJ (xC (qT F rfl l2 (oM (oR (oR (vH ?_)))))));refine xF ?_;exact⟨T,U,V,W,X,(vE d),F.su,H⟩
      | succ g3=>
       obtain⟨cy,d,c7⟩:=vX d;rw[c6] at d;have l2:=zW ae;refine xP (xA 1 F rfl fun a F=>xJ (xC (qV F rfl l2 (xL (xF (xC ?_))))));have j2:=k64I ae j1;have m2:=bC ae j1;refine xW (xP (xA 2 F rfl fun a F=>qO (oH kD F rfl rfl rfl fun a F=>oB isAgg2 F rfl rfl (H.b 2 rfl) rfl (fun a F=>?_))));refine xA 1 F rfl fun a F=>xJ ?_;obtain⟨o4,d,c8⟩:=xK d;refine xX (fun a w=>∃ (af:List PairStep) (ag:Value) (ah:Bool) (ai:List Rel) (aj:Value),o4= .nx (af,ah,ai)∧Sk a 60 [(2,vK h),(3,vK i),(6,aj),(7,ag),(8,.bool ah),(9,xG (e:Int)),(19,xG f.vars),(20,xG (e:Int)),(23,xG (e:Int)),(24,xG (j:Int))]∧Sep [] B n w [rl 3 oQ 186 ag af,rw N0 2 qD 51 aj ai,bx i [xG f.vars,x] 35,bx h [xG t.size,A] 31]) ?_ ?_
       ·
        refine xW ?_;obtain⟨c9,ca,d⟩:=zG d;refine oU (fun g a w=>∃ (p:Nat) (E:List PairStep) (C:Value) (I:Bool) (G:List Rel) (D:Value),p+g=f.vars.toNat∧zH c9 g p (E,I,G)=some o4∧Sk a 60 [(29,xG (p:Int)),(2,vK h),(3,vK i),(6,D),(7,C),(8,.bool I),(9,xG (e:Int)),(10,xG (j:Int)),(19,xG f.vars),(20,xG (e:Int)),(23,xG (e:Int)),(24,xG (j:Int)),(28,xG f.vars)]∧Sep [] B n w [rl 3 oQ 186 C E,rw N0 2 qD 51 D G,bx i [xG f.vars,x] 35,bx h [xG t.size,A] 31]) f.vars.toNat ?_ ?_
        ·
         exact⟨0,T,U,V,W,X,(Nat.zero_add _),d,F.su,H⟩
        intro g4 a w ⟨p,E,C,I,G,D,ak,d,F,H⟩
        cases g4 with
        | zero=>
         replace d:=vY d;have l3:=kT ak;refine xP (xA 1 F rfl fun a F=>xJ (xC (qT F rfl l3 (oM (oR (oR (vH ?_)))))));refine xF ?_;exact⟨E,C,I,G,D,(vE d),F.su,H⟩
        | succ g4=>
         obtain⟨cz,d,bc⟩:=vX d;rw[ca] at d;have l3:=zW ak;refine xP (xA 1 F rfl fun a F=>xJ (xC (qV F rfl l3 (xL (xF (xC ?_))))));have j3:=k64I ak i2;have m3:=bC ak i2;refine xW (xP (xA 2 F rfl fun a F=>qO (xA 2 F rfl fun a F=>?_)));refine xA 1 F rfl fun a F=>kV underlying186 zeroValue186 (fun w=>by simp [sizeOf2];rfl) F rfl rfl rfl rfl rfl (oc rfl (oc rfl (oc rfl on))) rfl rfl fun a F=>oA zeroValue186 F rfl rfl H fun a w b3 H F=>oWA (vs:=[xG (j:Int),xG (e:Int),xG (p:Int)]) sizeOf186 F rfl rfl rfl H (oc rfl (oc rfl (oc rfl on))) rfl rfl fun w H=>xJ (xC ?_);obtain⟨o5,d,cb⟩:=xK d;refine xX (fun a w=>∃ (Y:List Rel) (Z:Value) (az:Bool),o5= .nx (Y,az)∧Sk a 60 [(2,vK h),(3,vK i),(6,Z),(7,C),(8,.bool I),(9,xG (e:Int)),(10,xG (j:Int)),(12,vK b3),(19,xG f.vars),(20,xG (e:Int)),(23,xG (e:Int)),(24,xG (j:Int)),(28,xG f.vars),(29,xG (p:Int)),(50,.bool az)]∧Sep [] B n w [bx b3 [xG (j:Int),xG (e:Int),xG (p:Int)] 186,rl 3 oQ 186 C E,rw N0 2 qD 51 Z Y,bx i [xG f.vars,x] 35,bx h [xG t.size,A] 31]) ?_ ?_
         ·
          refine xU (xA 4 F rfl fun a F=>?_)
          rcases qU ((p:Int) != (j:Int)) with a0 | a0
          ·
           replace d:=vR a0 d;have F:=F.eb 39 rfl a0;refine xA 5 F rfl fun a F=>?_
           rcases qU ((p:Int) != (e:Int)) with a1 | a1
           ·
            replace d:=vR a1 d;have F:=F.eb 44 rfl a1;refine oH dA F rfl rfl rfl fun a F=>oB isAgg2 F rfl rfl (H.b 4 rfl) rfl fun a F=>xA 1 F rfl fun a F=>fU isAgg186 sizeOf186 F rfl rfl (H.b 0 rfl) rfl rfl (fun a F=>?_);obtain⟨z2,c2,d⟩:=xB d;obtain⟨X1,K1,cc⟩:=Sep.lend (K:=[rw N0 2 qD 51 D G]) (L:=[bx b3 [xG (j:Int),xG (e:Int),xG (p:Int)] 186,rl 3 oQ 186 C E,bx i [xG f.vars,x] 35,bx h [xG t.size,A] 31]) (H.s [2,0,1,3,4] rfl rfl);refine oG F rfl call136 rfl (impl_narrow_c z2 c2 _ H.hN K1 i1 (oQ.m j2 j1 j3)) (fun a vv w ⟨d0,S⟩ F=>?_);subst vv;have H:Sep [] B n w [rw N0 2 qD 51 D z2.2,bx b3 [xG (j:Int),xG (e:Int),xG (p:Int)] 186,rl 3 oQ 186 C E,bx i [xG f.vars,x] 35,bx h [xG t.size,A] 31]:=cc S;refine xA 1 F rfl fun a F=>xJ ?_;exact⟨z2.2,D,z2.1,(vE d),F.su,(H.s [1,2,0,3,4] rfl rfl)⟩
           replace d:=vQ a1 d;have F:=F.eb 44 rfl a1;refine xA 6 F rfl fun a F=>xJ ?_;exact⟨G,D,false,(vE d),F.su,H⟩
          replace d:=vQ a0 d;have F:=F.eb 39 rfl a0;refine xA 11 F rfl fun a F=>?_;refine xJ ?_;exact⟨G,D,false,(vE d),F.su,H⟩
         rintro a w ⟨Y,Z,az,rfl,F,H⟩
         have d:=xN cb;refine xF (qP F rfl (fun b0=>?_) (fun b0=>?_))
         ·
          replace d:=vR b0 d;refine xP (xA 1 F rfl fun a F=>fU isAgg186 sizeOf186 F rfl rfl (H.b 0 rfl) rfl rfl fun a F=>oR1z (R:=oQ) (y:=(PairStep.mk (j:Int) (e:Int) (p:Int))) underlying142 sizeOf186 zeroValue186 rfl rfl F rfl rfl H (Eo.agg (oQ.m j2 j1 j3)) (fun a w d1 H F=>?_));obtain⟨z3,c3,d⟩:=xB d;refine oPL (sz:=3) (R:=oQ) (z:=(.agg #[xG 0,xG 0,xG 0])) (bytes:=24) underlying142 (by kernel_rfl) rfl rfl F rfl rfl rfl (H.s [2,0,1,3,4,5] rfl rfl) c3 fun a w cd H F=>xA 1 F rfl fun a F=>xJ (xU (xA 1 F rfl fun a F=>oY (qS (xF (xU (qQ F rfl rfl rfl m3 (fun a F=>?_)))))));refine xA 1 F rfl fun a F=>xJ ?_;replace d:=qX d bc;exact⟨_,Nat.lt_succ_self _,p+1,z3,cd,true,Y,Z,(by omega),d,F.su,(H.s [0,2,3,4] rfl rfl)⟩
         replace d:=vQ b0 d;refine xL (qS (xF (xU (qQ F rfl rfl rfl m3 fun a F=>xA 1 F rfl fun a F=>xJ ?_))));replace d:=qX d bc;exact⟨_,Nat.lt_succ_self _,p+1,E,C,I,Y,Z,(by omega),d,F.su,(H.s [1,2,3,4] rfl rfl)⟩
       rintro a w ⟨af,ag,ah,ai,aj,rfl,F,H⟩
       have d:=xN c8;refine qS (xF (xU (qQ F rfl rfl rfl m2 fun a F=>xA 1 F rfl fun a F=>xJ ?_)));replace d:=qX d c7;exact⟨_,Nat.lt_succ_self _,j+1,af,ag,ah,ai,aj,(by omega),d,F.su,H⟩
     rintro a w ⟨a9,aa,ab,ac,ad,rfl,F,H⟩
     have d:=xN c4;refine qS (xF (xU (qQ F rfl rfl rfl m1 fun a F=>xA 1 F rfl fun a F=>xJ ?_)));replace d:=qX d hn2;exact⟨_,Nat.lt_succ_self _,e+1,a9,aa,ab,ac,ad,(by omega),d,F.su,H⟩
   rintro a w ⟨s7,v9,s8,s9,a7,rfl,F,H⟩
   have d:=xN c0;refine qS (xF ?_);replace d:=qX d bb;exact⟨t1,(by omega),s7,v9,s8,s9,a7,d,F.su,H⟩
  replace d:=vQ ay d;refine oM (oR (oR ?_));replace d:=eL d bb;refine vH (xF ?_);exact⟨s4,v7,s5,s6,v8,(vE d),F.su,(H.s [0,1] rfl rfl)⟩
 rintro a w ⟨s1,v5,s2,s3,v6,rfl,F,H⟩
 have d:=xN bu;refine xF (xP (xA 4 F rfl fun a F=>xJ (xT (vV F rfl (oD F rfl) (oD F rfl) ?_))));obtain rfl:=oj d;exact⟨_,rfl,v6,v5,rfl,(H.s [1,0] rfl rfl)⟩
def cX (N:Nat) (c:Int) (d:(List Int)) (e:(List Rel)) (f:Int):Option Bool:=
 vT (σ:=Unit) (
  qJ (σ:=Unit) (ρ:=Bool) (fun (h:Nat) (i:Int) (s:Unit)=>
    match s with
    | _=>
    xY (gJ N e (h:Int) f i c) fun j=>
    if (!j) then
     some (.ret false)
    else
     some (.go ())) d 0 ()) fun _=>
 some true
theorem impl_byPairs_1_c {B:Nat→Prop} {N:Nat} {n:Int} {h:(List Int)} {D:(List Rel)} {E:Int} (r:Bool) (d:cX N n h D E=some r) {y:Value} {p:Value} {t:Value} (f:World) (Q:∀ c,B c→c<f.heap.size) (K:xZ n) (R:Bo B f (Pt 1 (vO 1 xH)) y h) (S:Bo B f (Pt 1 (vO 2 qD)) p D) (T:Bo B f (Pt 1 xH) t E):Calls Tryz.prog 103 #[xG n,y,p,t] f (zO (.bool r) f):=by
 unfold cX at d
 refine xV (L:=[(0,xG n),(1,y),(2,p),(3,t)]) func103 rfl rfl rfl (sc rfl (sc rfl (sc rfl (sc rfl sn)))) (fun a F=>?_);have H:=Sep.start Q;refine xP (xA 1 F rfl fun a F=>xJ (xC (xP (aY isAgg25 F rfl rfl H.sm R fun a U G F=>oL underlying25 F rfl rfl G fun a I F=>xA 1 F rfl fun a F=>?_))));refine xJ ?_;obtain⟨J,d,A⟩:=xK d;refine xX (fun a w=>J= .nx ()∧Sk a 23 []∧Sep [] B f w []) ?_ ?_
 ·
  refine xW ?_;obtain⟨M,O,d⟩:=qE d;refine oU (fun g a w=>∃ (j:Nat) (i:List Int),(j≤h.length∧h.drop j=i)∧i.length=g∧qJ M i j ()=some J∧Sk a 23 [(10,xG (j:Int)),(0,xG n),(2,p),(3,t),(8,U),(9,xG (h.length:Int))]∧Sep [] B f w []) h.length ?_ ?_
  ·
   exact⟨0,h,⟨Nat.zero_le _,rfl⟩,rfl,d,F.su,H⟩
  intro a5 a w ⟨j,i,e,P,d,F,H⟩
  cases i with
  | nil=>
   replace d:=qH d;have V:=qG e.1 e.2;have z:=vA V;refine xP (xA 1 F rfl fun a F=>xJ (xC (qT F rfl z (oM (oR (oR (vH ?_)))))));refine xF ?_;exact⟨(vE d),F.sub sn,H⟩
  | cons x1 i=>
   subst P;replace e:=oO e.2;have W:=oZ e.2.1;obtain⟨a6,d,C⟩:=oV d;rw[O] at d;have z:=qM e.1;refine xP (xA 1 F rfl fun a F=>xJ (xC (qV F rfl z (xL (xF (xC ?_))))));have X:=fE (Nat.le_of_lt e.1) I;have Y:=zC e.1 I;refine xW (xP (xA 1 F rfl fun a F=>oI underlying25 sizeOf2 F rfl rfl rfl G W fun a p1 Z F=>aN isAgg2 F rfl rfl H.sm Z fun a i2 F=>xA 2 F rfl fun a F=>xJ (xC ?_)));refine xU (aY isAgg29 F rfl rfl H.sm S fun a v5 h3 F=>xA 1 F rfl fun a F=>aN isAgg2 F rfl rfl H.sm T fun a i3 F=>xA 2 F rfl fun a F=>?_);obtain⟨z1,c1,d⟩:=xB d;refine oK F rfl call104 rfl H (impl_isLeft_c z1 c1 _ aA (H.a h3) X i3 i2 K) fun a w H F=>xA 1 F rfl fun a F=>xJ (qP F rfl (fun x=>?_) (fun x=>?_))
   ·
    replace d:=vR x d;refine xP (xA 1 F rfl fun a F=>xJ (xT (vJ (oE (oE ?_)))));replace d:=zR d C;refine vJ (oE ?_);replace d:=zQ d A;refine oE (xS F rfl (oD F rfl) ?_);obtain rfl:=oj d;exact⟨rfl,H.bl⟩
   replace d:=vQ x d;refine xL (qS (xF (xU (qQ F rfl rfl rfl Y fun a F=>xA 1 F rfl fun a F=>xJ ?_))));replace d:=qX d C;exact⟨_,Nat.lt_succ_self _,j+1,i,⟨e.1,e.2.2⟩,rfl,d,F.su,H⟩
 rintro a w ⟨rfl,F,H⟩
 have d:=xN A;refine xF (xP (xA 1 F rfl fun a F=>xJ (xT (xS F rfl (oD F rfl) ?_))));obtain rfl:=oj d;exact⟨rfl,H.bl⟩
def fD (N:Nat) (d:Template) (c:Instance):Option ((List Int)×Bool):=
 if (c.vars==1) then
  xY (eN (Template.mk d.size d.rels) (Instance.mk c.vars c.cons)) fun x=>
  xY (dU N x ([])) fun j=>
  some (j.1,j.2)
 else
  xY (cY N (Template.mk d.size d.rels) (Instance.mk c.vars c.cons)) fun f=>
  xY (zE f.1 (fun h=>gK h)) fun y=>
  if y then
   some ([],false)
  else
   xY (ix f.1 0) fun z=>
   xY (ix z.tuples 0) fun A=>
   xY (ix A 0) fun B=>
   vT (σ:=(List Int)×Int) (
    cF (σ:=(List Int)×Int) (ρ:=(List Int)×Bool) (fun(s:(List Int)×Int)=>
      match s with
      | (i,e)=>
      if (decide (e<c.vars)) then
       xY (iN 0 d.size) fun C=>
       xY (qW C (fun h=>cX N h i f.1 e)) fun n=>
       if (decide (n<0)) then
        some (.ret ([],false))
       else
        xY (ap i ([n])) fun p=>
        xY (ck (e+1)) fun t=>
        some (.go (p,t))
      else
       some (.brk (i,e))) N ([B],1)) fun(D,E)=>
   some (D,true)
theorem impl_byPairs_c {B:Nat→Prop} {N:Nat} {K:Template} {M:Instance} (r:(List Int)×Bool) (d:fD N K M=some r) {O:Value} {P:Value} (e:World) (hN:∀ c,B c→c<e.heap.size) (A0:Bo B e (zX 2 xI) O K) (A1:Bo B e (zX 2 xO) P M):Calls Tryz.prog 53 #[O,P] e (Gv (fun v w'=>∃ (V:Value),v= .tuple #[V,.bool r.2]∧Sep [] B e w' [rl 1 xH 2 V r.1])):=by
 unfold fD at d
 refine xV (L:=[(0,O),(1,P)]) func53 rfl rfl rfl (sc rfl (sc rfl sn)) (fun a F=>?_);have H:=Sep.start hN;refine xP ?_;obtain⟨v2,rfl,Q,Z⟩:=xI.o A0;refine oX F rfl rfl rfl H (fun a w b1 H F=>?_);obtain⟨ab,rfl,i2,h2⟩:=xO.o A1;refine oX F rfl rfl rfl H fun a w b2 H F=>xA 2 F rfl fun a F=>xJ (xC (xP (oH kD F rfl rfl rfl fun a F=>oB isAgg2 F rfl rfl (H.b 0 rfl) rfl fun a F=>xA 1 F rfl fun a F=>?_)));refine xJ (qP F rfl (fun D=>?_) (fun D=>?_))
 ·
  replace d:=vR D d;refine xP (fU isAgg31 sizeOf31 F rfl rfl (H.b 1 rfl) rfl rfl fun a F=>fU isAgg35 sizeOf35 F rfl rfl (H.b 0 rfl) rfl rfl (fun a F=>?_));obtain⟨z1,c1,d⟩:=xB d;refine oG F rfl call98 rfl (impl_solverFor_c z1 c1 _ H.hN (xI.m Q (H.u Z)) (xO.m i2 (H.u h2))) (fun a f w ⟨v3,bm,S⟩ F=>?_);subst f;have H:=H.r1 S n1;obtain⟨bn,rfl⟩:∃ x,x=w:=⟨_,rfl⟩;have bp:=H.sm;obtain⟨X1,N1,g1,e1,H,ac,bq⟩:=H.fza;have h3:=g1.rod;obtain⟨z2,c2,d⟩:=xB d;refine oG F rfl call99 rfl (impl_solver_first_c z2 c2 _ aA (H.a h3) Bo.snil) (fun a f w ⟨v4,br,S⟩ F=>?_);subst f;have H:=H.r1 S n0;refine xA 4 F rfl fun a F=>xJ (xT (oE ?_));have H:=(ac.1 H (Ns.all ⟨n0,⟨n0,⟨n0,trivial⟩⟩⟩));refine vV F rfl (oD F rfl) (oD F rfl) ?_;obtain rfl:=oj d;exact⟨_,rfl,v4,rfl,(H.s [1] rfl rfl)⟩
 replace d:=vQ D d;refine xL (xF (xP (fU isAgg31 sizeOf31 F rfl rfl (H.b 1 rfl) rfl rfl fun a F=>fU isAgg35 sizeOf35 F rfl rfl (H.b 0 rfl) rfl rfl (fun a F=>?_))));obtain⟨z3,c3,d⟩:=xB d;refine oG F rfl call100 rfl (impl_makePairs_c z3 c3 _ aA (xI.m Q (H.a Z)) (xO.m i2 (H.a h2))) (fun a f w ⟨v5,v6,bt,S⟩ F=>?_);subst f;have H:=H.rk S ⟨n0,⟨n0,trivial⟩⟩ rfl;refine xA 3 F rfl fun a F=>oA zeroValue29 F rfl rfl H fun a w b3 H F=>oW sizeOf29 F rfl rfl rfl H (H.r 1 rfl).one rfl rfl fun w H=>xA 1 F rfl fun a F=>xJ (xC (xP ?_));refine oB isAgg29 F rfl rfl (H.b 0 rfl) rfl (fun a F=>?_);obtain⟨z4,c4,d⟩:=xB d;refine oK F rfl call49 rfl H (bE z4 c4 _ aA (H.r 1 rfl) call50 (fun a0 r h W p u0 f0=>impl_hasNone_c r h W aA f0)) fun a w H F=>xJ (qP F rfl (fun E=>?_) (fun E=>?_))
 ·
  replace d:=vR E d;refine xP (xA 2 F rfl fun a F=>xJ (xT (oE (vV F rfl (oD F rfl) (oD F rfl) ?_))));obtain rfl:=oj d;exact⟨_,rfl,aE,rfl,((H.nl 1 xH 2).s [0] rfl rfl)⟩
 replace d:=vQ E d;refine xL (xF (xP (oB isAgg29 F rfl rfl (H.b 0 rfl) rfl (fun a F=>?_))));obtain⟨z5,c5,d⟩:=xB d;refine oI underlying29 sizeOf51 F rfl rfl rfl (H.r 1 rfl) c5 fun a p1 h4 F=>oF (s':=1) vW F rfl rfl h4 qD.f1 fun a p2 h5 F=>aY isAgg45 F rfl rfl (Sm.refl _ _) h5 (fun a v7 h6 F=>?_);obtain⟨z6,c6,d⟩:=xB d;refine oI underlying45 sizeOf25 F rfl rfl rfl h6 c6 fun a p3 h7 F=>aY isAgg25 F rfl rfl (Sm.refl _ _) h7 (fun a v8 ad F=>?_);obtain⟨z7,c7,d⟩:=xB d;refine oI underlying25 sizeOf2 F rfl rfl rfl ad c7 fun a p4 h8 F=>aN isAgg2 F rfl rfl (Sm.refl _ _) h8 fun a i3 F=>oR1z (R:=xH) (y:=z7) underlying25 sizeOf2 zeroValue2 rfl rfl F rfl rfl H (Eo.int i3) fun a w v9 H F=>oA zeroValue25 F rfl rfl H fun a w t H F=>oW sizeOf25 F rfl rfl rfl H (H.l 1 rfl).one rfl rfl fun w H=>xJ (xC (xP (oA zeroValue2 F rfl rfl H (fun a w b5 H F=>?_))));refine oW sizeOf2 F rfl rfl rfl H rfl rfl rfl fun w H=>xJ ?_;obtain⟨o1,d,X⟩:=xK d;refine xX (fun a w=>∃ (T:List Int) (j:Value) (b6:Nat) (U:Int),o1= .nx (T,U)∧Sk a 56 [(8,vK t)]∧Sep [] B e w [bx t [j] 25,rl 1 xH 2 j T]∧xZ U) ?_ ?_
 ·
  refine xW ?_;obtain⟨ae,af,d⟩:=kU d;refine oU (fun g a w=>∃ (A:List Int) (n:Value) (C:Nat) (i:Int),cF ae g (A,i)=some o1∧Sk a 56 [(2,vK b1),(3,vK b2),(6,vK b3),(8,vK t),(9,vK C)]∧Sep [] B e w [bx C [xG i] 2,bx t [n] 25,rl 1 xH 2 n A,bx b3 [v5] 29,rw N0 2 qD 51 v5 z3.1,bx b2 [xG M.vars,ab] 35,bx b1 [xG K.size,v2] 31]∧xZ i) N ?_ ?_
  ·
   exact⟨[z7],v9,b5,1,d,F.su,(H.s [0,1,2,3,4,6,7] rfl rfl),(show xZ (1) by decide)⟩
  intro g2 a w ⟨A,n,C,i,d,F,H,i4⟩;obtain⟨bu,t1,bv,d,G⟩:=zK d;rw[af] at d;refine xC (xP (oB isAgg2 F rfl rfl (H.b 0 rfl) rfl fun a F=>oH kD F rfl rfl rfl fun a F=>oB isAgg2 F rfl rfl (H.b 5 rfl) rfl fun a F=>xA 1 F rfl fun a F=>xJ (qP F rfl (fun I=>?_) (fun I=>?_))))
  ·
   replace d:=vR I d;refine xL (xF (xC (xW (xP (oH dA F rfl rfl rfl fun a F=>oB isAgg2 F rfl rfl (H.b 6 rfl) rfl (fun a F=>?_))))));obtain⟨z8,c8,d⟩:=xB d;refine oG F rfl call102 rfl (impl_upTo_c z8 c8 _ aA (show xZ (0) by decide) Q) (fun a f w ⟨bw,c0,S⟩ F=>?_);subst f;have H:=H.r1 S n0;refine iW F rfl rfl rfl (fun a F=>?_);obtain⟨z9,c9,d⟩:=xB d;refine oKI F rfl call101 rfl H (aS z9 c9 _ aA (H.l 0 rfl) call103 (fun a0 r h W p f0=>impl_byPairs_1_c r h W aA f0 ((c1S (H.g 2 rfl).bk (H.l 3 rfl)).w p) ((c1S (H.g 4 rfl).bk (H.r 5 rfl)).w p) ((c1I (H.g 1 rfl).bk i4).w p))) fun a w H ag F=>xA 1 F rfl fun a F=>xJ (xC (xP (xA 2 F rfl fun a F=>xJ ?_)));refine qP F rfl (fun J=>?_) (fun J=>?_)
   ·
    replace d:=vR J d;refine xP (xA 2 F rfl fun a F=>xJ (xT (oE (vJ (oE (oE ?_))))));replace d:=zR d G;refine vJ (oE ?_);replace d:=zQ d X;refine oE (vV F rfl (oD F rfl) (oD F rfl) ?_);obtain rfl:=oj d;exact⟨_,rfl,aE,rfl,((H.nl 1 xH 2).s [0] rfl rfl)⟩
   replace d:=vQ J d;refine xL (xF (xU (oB isAgg25 F rfl rfl (H.b 2 rfl) rfl fun a F=>xA 1 F rfl fun a F=>oR1z (R:=xH) (y:=z9) underlying25 sizeOf2 zeroValue2 rfl rfl F rfl rfl H (Eo.int ag) (fun a w v14 H F=>?_))));obtain⟨ah,ai,d⟩:=xB d;refine oPL (sz:=1) (R:=xH) (z:=(xG 0)) (bytes:=8) underlying25 (by kernel_rfl) rfl rfl F rfl rfl rfl (H.s [4,0,1,2,3,5,6,7,8] rfl rfl) ai fun a w aj H F=>oW sizeOf25 F rfl rfl rfl (H.s [3,0,1,2,4,5,6,7] rfl rfl) ((H.s [3,0,1,2,4,5,6,7] rfl rfl).l 1 rfl).one rfl rfl fun w H=>oY (qS (xF (xC (xP (oB isAgg2 F rfl rfl (H.b 3 rfl) rfl fun a F=>xJ ?_)))));refine xU (oA zeroValue2 F rfl rfl H fun a w b8 H F=>oW sizeOf2 F rfl rfl rfl H rfl rfl rfl fun w H=>xJ (xU (oB isAgg2 F rfl rfl (H.b 0 rfl) rfl (fun a F=>?_))));obtain⟨ak,Y,d⟩:=xB d;refine kI F rfl rfl rfl Y fun a F=>oW sizeOf2 F rfl rfl rfl H rfl rfl rfl fun w H=>xJ ?_;replace d:=qX d G;exact⟨t1,(by omega),ah,aj,b8,ak,d,F.su,(H.s [0,1,2,5,6,7,8] rfl rfl),(kG Y)⟩
  replace d:=vQ I d;refine oM (oR (oR ?_));replace d:=eL d G;refine vH (xF ?_);exact⟨A,n,C,i,(vE d),F.su,(H.s [1,2] rfl rfl),i4⟩
 rintro a w ⟨T,j,b6,U,rfl,F,H,i5⟩
 have d:=xN X;refine xF (xP (oB isAgg25 F rfl rfl (H.b 0 rfl) rfl fun a F=>xA 2 F rfl fun a F=>xJ (xT (vV F rfl (oD F rfl) (oD F rfl) ?_))));obtain rfl:=oj d;exact⟨_,rfl,j,rfl,(H.s [1] rfl rfl)⟩
def impl_isTrue (d:Int) (c:Equation) (e:List Int):Option Bool:=
 vT (σ:=Int) (
  qJ (σ:=Int) (ρ:=Bool) (fun (f:Nat) (h i:Int)=>
   xY (ix e (f:Int)) fun j=>
   xY (ck (h*j)) fun n=>
   xY (ck (i+n)) fun p=>
   some (.go p)) c.left 0 0) fun t=>
 xY (rm t d) fun x=>
 some ((x==c.right))
theorem impl_isTrue_c {B:Nat→Prop} {j:Int} {f:Equation} {D:List Int} (r:Bool) (d:impl_isTrue j f D=some r) {z:Value} {t:Value} (h:World) (Q:∀ c,B c→c<h.heap.size) (a3:xZ j) (R:Bo B h (zX 2 zF) z f) (S:Bo B h (Sl 1 xH) t D):Calls Tryz.prog 121 #[xG j,z,t] h (zO (.bool r) h):=by
 unfold impl_isTrue at d
 refine xV (L:=[(0,xG j),(1,z),(2,t)]) func121 rfl rfl rfl (sc rfl (sc rfl (sc rfl sn))) (fun a F=>?_);have H:=Sep.start Q;refine xP ?_;obtain⟨A,rfl,E,i1⟩:=zF.o R;refine oX F rfl rfl rfl H fun a w x H F=>xA 1 F rfl fun a F=>qO (xA 1 F rfl fun a F=>xJ (xC (xC ?_)));refine xU (oH fa163_0 F rfl rfl rfl fun a F=>oB isAgg25 F rfl rfl (H.b 0 rfl) rfl fun a F=>oL underlying25 F rfl rfl E fun a G F=>xA 1 F rfl fun a F=>xJ ?_);obtain⟨I,d,K⟩:=xK d;refine xX (fun a w=>∃ (y:Int),I= .nx y∧Sk a 33 [(0,xG j),(4,vK x),(7,xG y)]∧Sep [] B h w [bx x [A,xG f.right] 163]∧xZ y) ?_ ?_
 ·
  refine xW ?_;obtain⟨M,N,d⟩:=qE d;refine oU (fun g a w=>∃ (n:Nat) (i:List Int) (p:Int),(n≤f.left.length∧f.left.drop n=i)∧i.length=g∧qJ M i n p=some I∧Sk a 33 [(13,xG (n:Int)),(0,xG j),(2,t),(4,vK x),(7,xG p),(11,A),(12,xG (f.left.length:Int))]∧Sep [] B h w [bx x [A,xG f.right] 163]∧xZ p) f.left.length ?_ ?_
  ·
   exact⟨0,f.left,0,⟨Nat.zero_le _,rfl⟩,rfl,d,F.su,H,(show xZ (0) by decide)⟩
  intro g1 a w ⟨n,i,p,e,O,d,F,H,T⟩
  cases i with
  | nil=>
   replace d:=qH d;have U:=qG e.1 e.2;have C:=vA U;refine xP (xA 1 F rfl fun a F=>xJ (xC (qT F rfl C (oM (oR (oR (vH ?_)))))));refine xF ?_;exact⟨p,(vE d),F.su,H,T⟩
  | cons x3 i=>
   subst O;replace e:=oO e.2;have V:=oZ e.2.1;obtain⟨a4,d,P⟩:=oV d;rw[N] at d;have C:=qM e.1;refine xP (xA 1 F rfl fun a F=>xJ (xC (qV F rfl C (xL (xF (xC ?_))))));have j1:=fE (Nat.le_of_lt e.1) G;have W:=zC e.1 G;refine xW (xP (xA 1 F rfl fun a F=>oI underlying25 sizeOf2 F rfl rfl rfl E V fun a p1 X F=>aN isAgg2 F rfl rfl H.sm X fun a i4 F=>xA 2 F rfl fun a F=>xJ (xU ?_)));refine xA 4 F rfl fun a F=>?_;obtain⟨z1,Y,d⟩:=xB d;refine oI underlying25 sizeOf2 F rfl rfl rfl S Y fun a p2 Z F=>aN isAgg2 F rfl rfl H.sm Z (fun a i5 F=>?_);obtain⟨z2,c2,d⟩:=xB d;refine o_mul F rfl rfl rfl c2 (fun a F=>?_);obtain⟨z3,J,d⟩:=xB d;refine kI F rfl rfl rfl J fun a F=>xA 1 F rfl fun a F=>oY (qS (xF (xU (qQ F rfl rfl rfl W fun a F=>xA 1 F rfl fun a F=>xJ ?_))));replace d:=qX d P;exact⟨_,Nat.lt_succ_self _,n+1,i,z3,⟨e.1,e.2.2⟩,rfl,d,F.su,H,(kG J)⟩
 rintro a w ⟨y,rfl,F,H,i6⟩
 have d:=xN K;refine xF (xC (xQ H (by kernel_rfl) (by kernel_rfl) (xR F rfl (fun w l=>xM F rfl) fun a F=>xR F rfl (fun w l=>xM F rfl) (fun a F=>?_))));obtain⟨z4,c4,d⟩:=xB d;refine xR F rfl (fun w l=>r_rem F rfl rfl c4) fun a F=>xR F rfl (fun w l=>vG fa163_1 F rfl rfl) fun a F=>qB isAgg2 F rfl rfl (H.qb 0 rfl) rfl fun a F=>xR F rfl (fun w l=>r_eql F rfl rfl) fun a F=>xR F rfl (fun w l=>zM F rfl) fun a F=>kA fun w H=>xF (xT (xS F rfl (oD F rfl) ?_));obtain rfl:=oj d;exact⟨rfl,H.bl⟩
def gC (c:List Int) (d:Equation):Option Bool:=
 xY (impl_isTrue 2 d c) fun e=>
 some ((!e))
theorem impl_equationsOver_1_c {B:Nat→Prop} {i:List Int} {j:Equation} (r:Bool) (e:gC i j=some r) {f:Value} {h:Value} (d:World) (n:∀ c,B c→c<d.heap.size) (p:Bo B d (Sl 1 xH) f i) (t:Bo B d (Pt 2 zF) h j):Calls Tryz.prog 120 #[f,h] d (zO (.bool r) d):=by
 unfold gC at e
 refine xV (L:=[(0,f),(1,h)]) func120 rfl rfl rfl (sc rfl (sc rfl sn)) (fun a F=>?_);have H:=Sep.start n;refine xP (xA 1 F rfl fun a F=>qO (olA isAgg163 sizeOf163 F rfl rfl H.sm t fun a A x F=>xA 1 F rfl fun a F=>?_));obtain⟨y,z,e⟩:=xB e;refine oK F rfl call121 rfl H (impl_isTrue_c y z _ aA (show xZ (2) by decide) (H.a x) (H.a p)) fun a w H F=>xA 2 F rfl fun a F=>xJ (xT (xS F rfl (oD F rfl) ?_));obtain rfl:=oj e;exact⟨rfl,H.bl⟩
def aK (N:Nat) (c:Rel):Option (List (List Int)):=
 xY (ck (c.arity+1)) fun e=>
 xY (gH 2 e) fun h=>
 vT (σ:=(List (List Int))) (
  zH (σ:=(List (List Int))) (ρ:=(List (List Int))) (fun(i:Nat) (f:(List (List Int)))=>
   xY (aM N 2 e (1+(i:Int))) fun d=>
   xY (sl d 0 c.arity) fun j=>
   xY (ix d c.arity) fun n=>
   xY (vP c.tuples (fun p=>gC p (Equation.mk j n))) fun t=>
   if (!t) then
    xY (ap f ([d])) fun x=>
    some (.go x)
   else
    some (.go f)) (h - 1).toNat 0 []) fun y=>
 some y
theorem impl_equationsOver_c {B:Nat→Prop} {N:Nat} {E:Rel} (r:(List (List Int))) (d:aK N E=some r) {G:Value} (e:World) (hN:∀ c,B c→c<e.heap.size) (A0:Bo B e (zX 2 qD) G E):Calls Tryz.prog 63 #[G] e (Gv (fun v w'=>∃ (M:Value),v=M∧Sep [] B e w' [rl 1 (vO 1 xH) 25 M r])):=by
 unfold aK at d
 refine xV (L:=[(0,G)]) func63 rfl rfl rfl (sc rfl sn) (fun a F=>?_);have H:=Sep.start hN;refine xP ?_;obtain⟨v1,rfl,i1,h1⟩:=qD.o A0;refine oX F rfl rfl rfl H fun a w Q H F=>xA 1 F rfl fun a F=>qO (oR0 (R:=(vO 1 xH)) underlying45 sizeOf25 F rfl H fun a w v2 H F=>xA 1 F rfl fun a F=>xJ (xC ?_));refine xP (xA 1 F rfl fun a F=>xJ ?_);obtain⟨z1,f,d⟩:=xB d;obtain⟨t,T,d⟩:=xB d;obtain⟨U,d,a1⟩:=xK d;refine xX (fun a w=>∃ (I:List (List Int)) (A:Value),U= .nx I∧Sk a 41 [(3,A)]∧Sep [] B e w [rl 1 (vO 1 xH) 25 A I]) ?_ ?_
 ·
  refine xW ?_;obtain⟨a2,a3,d⟩:=zG d;refine oU (fun g a w=>∃ (i:Nat) (j:List (List Int)) (n:Value),i+g=(t - 1).toNat∧zH a2 g i j=some U∧Sk a 41 [(4,xG (1+(i:Int))),(1,vK Q),(3,n)]∧Sep [] B e w [rl 1 (vO 1 xH) 25 n j,bx Q [xG E.arity,v1] 51]) (t - 1).toNat ?_ ?_
  ·
   exact⟨0,[],v2,(Nat.zero_add _),d,F.su,H⟩
  intro V a w ⟨i,j,n,p,d,F,H⟩
  cases V with
  | zero=>
   replace d:=vY d;have J:=dec_noIO p;refine xC (xP (xA 1 F rfl fun a F=>oH cB F rfl rfl rfl fun a F=>oB isAgg2 F rfl rfl (H.b 1 rfl) rfl fun a F=>kI F rfl rfl rfl f fun a F=>oKI F rfl call79 rfl H (gN t T _ aA (show xZ (2) by decide) (kG f)) fun a w H C F=>xA 1 F rfl fun a F=>xJ ?_));refine qT F rfl J (oM (oR (oR (vH (xF ?_)))));exact⟨j,n,(vE d),F.su,(H.s [0] rfl rfl)⟩
  | succ V=>
   obtain⟨aq,d,O⟩:=vX d;rw[a3] at d;have J:=dec_yesIO p;refine xC (xP (xA 1 F rfl fun a F=>oH cB F rfl rfl rfl fun a F=>oB isAgg2 F rfl rfl (H.b 1 rfl) rfl fun a F=>kI F rfl rfl rfl f fun a F=>oKI F rfl call79 rfl H (gN t T _ aA (show xZ (2) by decide) (kG f)) fun a w H C F=>xA 1 F rfl fun a F=>xJ ?_));refine qV F rfl J (xL (xF (xC ?_)));have j1:=k64O p (show xZ (1) by decide) C;have X:=inc64O p (show xZ (1) by decide) C;refine xW (xP (oH cB F rfl rfl rfl fun a F=>oB isAgg2 F rfl rfl (H.b 1 rfl) rfl fun a F=>kI F rfl rfl rfl f fun a F=>xA 1 F rfl fun a F=>?_));obtain⟨Y,c3,d⟩:=xB d;refine oG F rfl call81 rfl (impl_listOf_c Y c3 _ aA (show xZ (2) by decide) (kG f) j1) (fun a vv w ⟨v5,ar,S⟩ F=>?_);subst vv;have H:=H.r1 S n0;refine xA 1 F rfl fun a F=>xJ (xC ?_);obtain⟨z4,c4,d⟩:=xB d;obtain⟨z5,c5,d⟩:=xB d;obtain⟨w1,rfl⟩:∃ x,x=w:=⟨_,rfl⟩;have au:=H.sm;obtain⟨X1,N1,Z,e1,H,P,av⟩:=(H.s [0,2,1] rfl rfl).mg.fza;have h2:=Z.l.ld;have K1:=Z.r.bk;refine xD H (by kernel_rfl) fun w H=>vM 0 rfl (by kernel_rfl) (oJ F rfl (fun w l=>xM F rfl) fun a F=>qY 1 rfl (by kernel_rfl) (oJ F rfl (fun w l=>vG cB F rfl rfl) fun a F=>qY 2 rfl (by kernel_rfl) (vB isAgg2 F rfl rfl (K1.v H.sm) rfl fun a F=>qY 3 rfl (by kernel_rfl) (vC underlying25 sizeOf2 F rfl rfl rfl rfl h2 c4 fun a v6 K F=>vM 4 rfl (by kernel_rfl) (oJ F rfl (fun w l=>xM F rfl) (fun a F=>?_))))));refine qY 5 rfl (by kernel_rfl) (oJ F rfl (fun w l=>vG cB F rfl rfl) fun a F=>qY 6 rfl (by kernel_rfl) (vB isAgg2 F rfl rfl (K1.v H.sm) rfl fun a F=>qY 7 rfl (by kernel_rfl) (vI underlying25 sizeOf2 F rfl rfl rfl h2 c5 fun a p1 h4 F=>qY 8 rfl (by kernel_rfl) (vlI isAgg2 F rfl rfl H.v h4 fun a i2 F=>qY 9 rfl (by kernel_rfl) (oJ F rfl (fun w l=>r_build underlying163 zeroValue163 (fun w=>by simp [sizeOf2,sizeOf25];rfl) F rfl rfl rfl rfl (oc (H.a K).one (oc rfl on)) rfl rfl) fun a F=>xE H 10 rfl (by kernel_rfl) ?_)))));refine oA zeroValue163 F rfl rfl H fun a w b2 H F=>xJ ⟨⟨_,H⟩,?_⟩;refine xE H 11 rfl (by kernel_rfl) (oWA (vs:=[v6,xG z5]) sizeOf163 F rfl rfl rfl H (oc (H.a K).one (oc rfl on)) rfl rfl fun w H=>xJ ⟨⟨_,H⟩,?_⟩);refine bF (by kernel_rfl) (xF (xP (oH vW F rfl rfl rfl fun a F=>oB isAgg45 F rfl rfl (K1.o H.sm) rfl fun a F=>iW F rfl rfl rfl (fun a F=>?_))));obtain⟨z6,c6,d⟩:=xB d;refine oK F rfl call119 rfl H (kS z6 c6 _ aA (H.a (e1 h1)) call120 (fun a0 r h W l1 u0 f0=>impl_equationsOver_1_c r h W aA f0 ((zF.b (H.g 0 rfl).bk (H.a K) i2).w l1))) fun a w H F=>xA 1 F rfl fun a F=>xJ (qP F rfl (fun D=>?_) (fun D=>?_))
   ·
    replace d:=vR D d;refine xU (xA 2 F rfl fun a F=>?_);have H:=(P.1 H (Ns.all ⟨n0,⟨n0,trivial⟩⟩)).um;have H:=H.os;refine oR1L (R:=(vO 1 xH)) (y:=Y) underlying45 sizeOf25 zeroValue25 rfl rfl F rfl rfl H El.sl (fun a w v7 H F=>?_);obtain⟨z7,c7,d⟩:=xB d;refine oPL (sz:=1) (R:=(vO 1 xH)) (z:=(aE)) (bytes:=24) underlying45 (by kernel_rfl) rfl rfl F rfl rfl rfl (H.s [3,0,1,2] rfl rfl) c7 fun a w v8 H F=>xA 1 F rfl fun a F=>oY (qS (xF (xU (xA 1 F rfl fun a F=>o_incO F rfl rfl rfl X fun a F=>xA 1 F rfl fun a F=>xJ ?_))));replace d:=qX d O;exact⟨_,Nat.lt_succ_self _,i+1,z7,v8,(by omega),d,F.su,(H.s [0,1] rfl rfl)⟩
   replace d:=vQ D d;refine xL (qS (xF (xU (xA 1 F rfl fun a F=>o_incO F rfl rfl rfl X fun a F=>xA 1 F rfl fun a F=>xJ ?_))));replace d:=qX d O;exact⟨_,Nat.lt_succ_self _,i+1,j,n,(by omega),d,F.su,((P.1 (H.s [1] rfl rfl) (Ns.all ⟨n0,trivial⟩)).um.s [2,1] rfl rfl)⟩
 rintro a w ⟨I,A,rfl,F,H⟩
 have d:=xN a1;refine xF (xP (xA 2 F rfl fun a F=>xJ (xT (xS F rfl (oD F rfl) ?_))));obtain rfl:=oj d;exact⟨_,rfl,A,rfl,H⟩
def impl_plus (e f:List Int):Option (List Int):=
 xY (vS e) fun h=>
 vT (σ:=(List Int)) (
  qJ (σ:=(List Int)) (ρ:=(List Int)) (fun (c:Nat) (i:Int) (d:(List Int))=>
   xY (ix d (c:Int)) fun j=>
   xY (ck (j+i)) fun n=>
   xY (rm n 2) fun p=>
   some (.go (d.set ((c:Int)).toNat p))) f 0 h) fun t=>
 some t
theorem impl_plus_c {B:Nat→Prop} {G f:List Int} (r:(List Int)) (d:impl_plus G f=some r) {y:Value} {t:Value} (h:World) (V:∀ c,B c→c<h.heap.size) (W:Bo B h (Sl 1 xH) y G) (I:Bo B h (Sl 1 xH) t f):Calls Tryz.prog 105 #[y,t] h (Gv (fun v w'=>∃ (D:Value),v=D∧Sep [] B h w' [rl 1 xH 2 D r])):=by
 unfold impl_plus at d
 refine xV (L:=[(0,y),(1,t)]) func105 rfl rfl rfl (sc rfl (sc rfl sn)) (fun a F=>?_);have H:=Sep.start V;refine xP (xA 1 F rfl fun a F=>qO (xA 1 F rfl fun a F=>?_));obtain⟨J,X,d⟩:=xB d;refine oG F rfl call83 rfl (kH J X _ aA (H.a W)) (fun a Y w ⟨Z,a6,S⟩ F=>?_);subst Y;have H:=H.r1 S n0;refine xA 1 F rfl fun a F=>xJ (xC (xP (xA 1 F rfl fun a F=>oL underlying25 F rfl rfl I fun a E F=>xA 1 F rfl fun a F=>xJ ?_)));obtain⟨K,d,O⟩:=xK d;refine xX (fun a w=>∃ (z:List Int) (x:Value),K= .nx z∧Sk a 29 [(5,x)]∧Sep [] B h w [rl 1 xH 2 x z]) ?_ ?_
 ·
  refine xW ?_;obtain⟨P,Q,d⟩:=qE d;refine oU (fun g a w=>∃ (i:Nat) (j n:List Int) (p:Value),(i≤f.length∧f.drop i=j)∧j.length=g∧qJ P j i n=some K∧Sk a 29 [(12,xG (i:Int)),(5,p),(10,t),(11,xG (f.length:Int))]∧Sep [] B h w [rl 1 xH 2 p n]) f.length ?_ ?_
  ·
   exact⟨0,f,J,Z,⟨Nat.zero_le _,rfl⟩,rfl,d,F.su,H⟩
  intro g1 a w ⟨i,j,n,p,e,R,d,F,H⟩
  cases j with
  | nil=>
   replace d:=qH d;have q1:=qG e.1 e.2;have A:=vA q1;refine xP (xA 1 F rfl fun a F=>xJ (xC (qT F rfl A (oM (oR (oR (vH ?_)))))));refine xF ?_;exact⟨n,p,(vE d),F.su,H⟩
  | cons x2 j=>
   subst R;replace e:=oO e.2;have y1:=oZ e.2.1;obtain⟨a7,d,T⟩:=oV d;rw[Q] at d;have A:=qM e.1;refine xP (xA 1 F rfl fun a F=>xJ (xC (qV F rfl A (xL (xF (xC ?_))))));have j1:=fE (Nat.le_of_lt e.1) E;have m1:=zC e.1 E;refine xW (xP (xA 1 F rfl fun a F=>oI underlying25 sizeOf2 F rfl rfl rfl I y1 fun a p1 h1 F=>aN isAgg2 F rfl rfl H.sm h1 fun a i1 F=>xA 2 F rfl fun a F=>xJ (xU ?_)));refine xA 4 F rfl fun a F=>?_;obtain⟨z2,C,d⟩:=xB d;refine oI underlying25 sizeOf2 F rfl rfl rfl (H.l 0 rfl) C fun a p2 h2 F=>aN isAgg2 F rfl rfl (Sm.refl _ _) h2 fun a i2 F=>xA 1 F rfl fun a F=>?_;obtain⟨z3,M,d⟩:=xB d;refine kI F rfl rfl rfl M (fun a F=>?_);obtain⟨z4,N,d⟩:=xB d;refine o_rem F rfl rfl rfl N fun a F=>oRl underlying25 sizeOf2 F rfl rfl rfl H 0 rfl C (fun a p3 h3 U F=>?_);have H:=H.lw;refine oS sizeOf2 F rfl rfl rfl H U (ix_lt C) (Eo.int (rm64 N (kG M) (show xZ (2) by decide))) rfl rfl (fun w H=>?_);have H:=H.tl;refine oY (qS (xF (xU (qQ F rfl rfl rfl m1 fun a F=>xA 1 F rfl fun a F=>xJ ?_))));replace d:=qX d T;exact⟨_,Nat.lt_succ_self _,i+1,j,(n.set ((i:Int)).toNat z4),p,⟨e.1,e.2.2⟩,rfl,d,F.su,H⟩
 rintro a w ⟨z,x,rfl,F,H⟩
 have d:=xN O;refine xF (xP (xA 2 F rfl fun a F=>xJ (xT (xS F rfl (oD F rfl) ?_))));obtain rfl:=oj d;exact⟨_,rfl,x,rfl,H⟩
def bO (N:Nat) (O:Template) (c:Instance):Option ((List Int)×Bool):=
 vT (σ:=(List told)) (
  qJ (σ:=(List told)) (ρ:=(List Int)×Bool) (fun (k1:Nat) (x:Con) (P:(List told))=>
   xY (ix O.rels x.rel) fun Q=>
   xY (aK N Q) fun R=>
   vT (σ:=(List told)) (
    qJ (σ:=(List told)) (ρ:=(Ctl ((List told)) ((List Int)×Bool))) (fun (k2:Nat) (h:(List Int)) (e:(List told))=>
     xY (ck (c.vars+1)) fun S=>
     xY (mkz (0:Int) S) fun T=>
     vT (σ:=(List Int)) (
      qJ (σ:=(List Int)) (ρ:=(Ctl ((List told)) (Ctl ((List told)) ((List Int)×Bool)))) (fun (U:Nat) (y:Int) (z:(List Int))=>
       xY (ix z y) fun V=>
       xY (ix h (U:Int)) fun W=>
       xY (ck (V+W)) fun X=>
       xY (rm X 2) fun Y=>
       some (.go (z.set (y).toNat Y))) x.scope 0 T) fun A=>
     xY (ck ((h.length:Int) - 1)) fun Z=>
     xY (ix h Z) fun D=>
     xY (ix A c.vars) fun a2=>
     vT (σ:=(List Int)) (
      qJ (σ:=(List Int)) (ρ:=(Ctl ((List told)) (Ctl ((List told)) ((List Int)×Bool)))) (fun (k4:Nat) (B:told) (i:(List Int))=>
       xY (ix i B.var) fun E=>
       if (E==1) then
        xY (impl_plus i B.left) fun F=>
        some (.go F)
       else
        some (.go i)) e 0 (A.set (c.vars).toNat D)) fun j=>
     xY (zN j 1) fun d=>
     if (decide (d<0)) then
      some (.go e)
     else
      if (d==c.vars) then
       some (.ret (.ret ([],false)))
      else
       vT (σ:=(List told)) (
        qJ (σ:=(List told)) (ρ:=(Ctl ((List told)) (Ctl ((List told)) ((List Int)×Bool)))) (fun (C:Nat) (x6:told) (n:(List told))=>
         xY (ix n (C:Int)) fun f=>
         xY (ix f.left d) fun G=>
         if (G==1) then
          xY (impl_plus f.left j) fun H=>
          some (.go (n.set ((C:Int)).toNat ({ f with left:=H })))
         else
          some (.go n)) e 0 e) fun s8=>
       xY (ap s8 ([(told.mk j d)])) fun I=>
       some (.go I)) R 0 P) fun s9=>
   some (.go s9)) c.cons 0 []) fun J=>
 xY (mkz (0:Int) c.vars) fun K=>
 vT (σ:=(List Int)) (
  qJ (σ:=(List Int)) (ρ:=(List Int)×Bool) (fun (k6:Nat) (p:told) (t:(List Int))=>
   xY (ix p.left c.vars) fun L=>
   xY (ix t p.var) fun a3=>
   some (.go (t.set (p.var).toNat L))) J 0 K) fun M=>
 some (M,true)
theorem impl_byEquations_c {B:Nat→Prop} {N:Nat} {K:Template} {f:Instance} (r:(List Int)×Bool) (d:bO N K f=some r) {v0:Value} {v1:Value} (M:World) (hN:∀ c,B c→c<M.heap.size) (A0:Bo B M (zX 2 xI) v0 K) (A1:Bo B M (zX 2 xO) v1 f):Calls Tryz.prog 54 #[v0,v1] M (Gv (fun v w'=>∃ (bm:Value),v= .tuple #[bm,.bool r.2]∧Sep [] B M w' [rl 1 xH 2 bm r.1])):=by
 unfold bO at d
 refine xV (L:=[(0,v0),(1,v1)]) func54 rfl rfl rfl (sc rfl (sc rfl sn)) (fun a F=>?_);have H:=Sep.start hN;refine xP ?_;obtain⟨T,rfl,i1,h1⟩:=xI.o A0;refine oX F rfl rfl rfl H (fun a w i H F=>?_);obtain⟨n,rfl,i2,h2⟩:=xO.o A1;refine oX F rfl rfl rfl H fun a w j H F=>xA 2 F rfl fun a F=>qO (oR0 (R:=aC) underlying148 sizeOf150 F rfl H fun a w v3 H F=>xA 1 F rfl fun a F=>xJ ?_);refine xC (xP (oH bU F rfl rfl rfl fun a F=>oB isAgg33 F rfl rfl (H.b 1 rfl) rfl fun a F=>oL underlying33 F rfl rfl h2 fun a i3 F=>xA 1 F rfl fun a F=>xJ ?_));obtain⟨o1,d,bn⟩:=xK d;refine xX (fun a w=>∃ (U:List told) (v4:Value),o1= .nx U∧Sk a 156 [(3,vK j),(6,v4)]∧Sep [] B M w [rw N0 2 aC 150 v4 U,bx j [xG f.vars,n] 35]) ?_ ?_
 ·
  refine xW ?_;obtain⟨cx,cy,d⟩:=qE d;refine oU (fun g a w=>∃ (t:Nat) (t1:List Con) (s2:List told) (v5:Value),(t≤f.cons.length∧f.cons.drop t=t1)∧t1.length=g∧qJ cx t1 t s2=some o1∧Sk a 156 [(26,xG (t:Int)),(2,vK i),(3,vK j),(6,v5),(24,n),(25,xG (f.cons.length:Int))]∧Sep [] B M w [rw N0 2 aC 150 v5 s2,bx j [xG f.vars,n] 35,bx i [xG K.size,T] 31]) f.cons.length ?_ ?_
  ·
   exact⟨0,f.cons,[],v3,⟨Nat.zero_le _,rfl⟩,rfl,d,F.su,H.lw⟩
  intro g1 a w ⟨t,t1,s2,v5,O,cz,d,F,H⟩
  cases t1 with
  | nil=>
   replace d:=qH d;have q1:=qG O.1 O.2;have l1:=vA q1;refine xP (xA 1 F rfl fun a F=>xJ (xC (qT F rfl l1 (oM (oR (oR (vH ?_)))))));refine xF ?_;exact⟨s2,v5,(vE d),F.su,(H.s [0,1] rfl rfl)⟩
  | cons C t1=>
   subst cz;replace O:=oO O.2;have y1:=oZ O.2.1;obtain⟨gf,d,bp⟩:=oV d;rw[cy] at d;have l1:=qM O.1;refine xP (xA 1 F rfl fun a F=>xJ (xC (qV F rfl l1 (xL (xF (xC ?_))))));have j1:=fE (Nat.le_of_lt O.1) i3;have m1:=zC O.1 i3;refine xW (xP (oI underlying33 sizeOf119 F rfl rfl rfl h2 y1 fun a p1 h3 F=>olA isAgg119 sizeOf119 F rfl rfl H.sm h3 fun a v6 h4 F=>oA zeroValue119 F rfl rfl H (fun a w A H F=>?_)));obtain⟨V,rfl,i4,h5⟩:=vU.o h4;refine oWA (vs:=[xG C.rel,V]) sizeOf119 F rfl rfl rfl H (oc rfl (oc (H.a h5).one on)) rfl rfl fun w H=>qO (oH kR F rfl rfl rfl fun a F=>oB isAgg29 F rfl rfl (H.b 3 rfl) rfl fun a F=>oH fR F rfl rfl rfl fun a F=>oB isAgg2 F rfl rfl (H.b 0 rfl) rfl (fun a F=>?_));obtain⟨z1,c1,d⟩:=xB d;refine oI underlying29 sizeOf51 F rfl rfl rfl h1 c1 fun a p2 h6 F=>olA isAgg51 sizeOf51 F rfl rfl H.sm h6 (fun a v8 h7 F=>?_);obtain⟨D,c2,d⟩:=xB d;refine oG F rfl call63 rfl (impl_equationsOver_c D c2 _ aA (H.a h7)) (fun a vv w ⟨W,gg,S⟩ F=>?_);subst vv;have H:=H.r1 S n0;refine oL underlying45 F rfl rfl (H.l 0 rfl) fun a i5 F=>xA 1 F rfl fun a F=>xJ ?_;obtain⟨o2,d,bq⟩:=xK d;refine xX (fun a w=>∃ (s3:List told) (al:Value),o2= .nx s3∧Sk a 156 [(2,vK i),(3,vK j),(6,al),(24,n),(25,xG (f.cons.length:Int)),(26,xG (t:Int))]∧Sep [] B M w [rw N0 2 aC 150 al s3,bx j [xG f.vars,n] 35,bx i [xG K.size,T] 31]) ?_ ?_
   ·
    refine xW ?_;obtain⟨d0,d1,d⟩:=qE d;refine oU (fun g a w=>∃ (E:Nat) (X:List (List Int)) (h:List told) (p:Value),(E≤D.length∧D.drop E=X)∧X.length=g∧qJ d0 X E h=some o2∧Sk a 156 [(38,xG (E:Int)),(2,vK i),(3,vK j),(6,p),(8,vK A),(24,n),(25,xG (f.cons.length:Int)),(26,xG (t:Int)),(36,W),(37,xG (D.length:Int))]∧Sep [] B M w [rl 1 (vO 1 xH) 25 W D,bx A [xG C.rel,V] 119,rw N0 2 aC 150 p h,bx j [xG f.vars,n] 35,bx i [xG K.size,T] 31]) D.length ?_ ?_
    ·
     exact⟨0,D,s2,v5,⟨Nat.zero_le _,rfl⟩,rfl,d,F.su,H⟩
    intro g2 a w ⟨E,X,h,p,G,d2,d,F,H⟩
    cases X with
    | nil=>
     replace d:=qH d;have q2:=qG G.1 G.2;have l2:=vA q2;refine xP (xA 1 F rfl fun a F=>xJ (xC (qT F rfl l2 (oM (oR (oR (vH ?_)))))));refine xF ?_;exact⟨h,p,(vE d),F.su,(H.s [2,3,4] rfl rfl)⟩
    | cons x3 X=>
     subst d2;replace G:=oO G.2;have y2:=oZ G.2.1;obtain⟨gh,d,az⟩:=oV d;rw[d1] at d;have l2:=qM G.1;refine xP (xA 1 F rfl fun a F=>xJ (xC (qV F rfl l2 (xL (xF (xC ?_))))));have j2:=fE (Nat.le_of_lt G.1) i5;have m2:=zC G.1 i5;refine xW (xP ?_);obtain⟨w1,rfl⟩:∃ x,x=w:=⟨_,rfl⟩;have d3:=H.sm;obtain⟨X1,N1,g3,e1,H,am,gi⟩:=H.fza;have h8:=g3.ld;refine oI underlying45 sizeOf25 F rfl rfl rfl h8 y2 fun a p3 h9 F=>aY isAgg25 F rfl rfl H.sm h9 fun a br b0 F=>xA 1 F rfl fun a F=>qO (oH kD F rfl rfl rfl fun a F=>oB isAgg2 F rfl rfl (H.b 2 rfl) rfl (fun a F=>?_));obtain⟨z3,c3,d⟩:=xB d;refine kI F rfl rfl rfl c3 (fun a F=>?_);obtain⟨z4,c4,d⟩:=xB d;refine oRM (sz:=1) (R:=xH) (z:=(xG 0)) (bytes:=8) underlying25 (by kernel_rfl) rfl (by decide) (by decide) (fun w=>⟨rfl,by decide,rfl⟩) F rfl rfl rfl c4 H fun a w d4 H F=>xA 1 F rfl fun a F=>xJ (xC (xP (oH zV F rfl rfl rfl fun a F=>oB isAgg25 F rfl rfl (H.b 1 rfl) rfl fun a F=>oL underlying25 F rfl rfl h5 fun a i6 F=>xA 1 F rfl fun a F=>?_)));refine xJ ?_;obtain⟨o3,d,d5⟩:=xK d;refine xX (fun a w=>∃ (s5:List Int) (an:Value),o3= .nx s5∧Sk a 156 [(2,vK i),(3,vK j),(6,p),(8,vK A),(10,br),(11,an),(24,n),(25,xG (f.cons.length:Int)),(26,xG (t:Int)),(36,W),(37,xG (D.length:Int)),(38,xG (E:Int))]∧Sep X1 N1 w1 w [rl 1 xH 2 an s5,bx A [xG C.rel,V] 119,rw N0 2 aC 150 p h,bx j [xG f.vars,n] 35,bx i [xG K.size,T] 31]) ?_ ?_
     ·
      refine xW ?_;obtain⟨d6,d7,d⟩:=qE d;refine oU (fun g a w=>∃ (k3:Nat) (t3 s6:List Int) (ab:Value),(k3≤C.scope.length∧C.scope.drop k3=t3)∧t3.length=g∧qJ d6 t3 k3 s6=some o3∧Sk a 156 [(49,xG (k3:Int)),(2,vK i),(3,vK j),(6,p),(8,vK A),(10,br),(11,ab),(24,n),(25,xG (f.cons.length:Int)),(26,xG (t:Int)),(36,W),(37,xG (D.length:Int)),(38,xG (E:Int)),(47,V),(48,xG (C.scope.length:Int))]∧Sep X1 N1 w1 w [rl 1 xH 2 ab s6,bx A [xG C.rel,V] 119,rw N0 2 aC 150 p h,bx j [xG f.vars,n] 35,bx i [xG K.size,T] 31]) C.scope.length ?_ ?_
      ·
       exact⟨0,C.scope,z4,d4,⟨Nat.zero_le _,rfl⟩,rfl,d,F.su,H⟩
      intro g4 a w ⟨k3,t3,s6,ab,P,d8,d,F,H⟩
      cases t3 with
      | nil=>
       replace d:=qH d;have q3:=qG P.1 P.2;have l3:=vA q3;refine xP (xA 1 F rfl fun a F=>xJ (xC (qT F rfl l3 (oM (oR (oR (vH ?_)))))));refine xF ?_;exact⟨s6,ab,(vE d),F.su,H⟩
      | cons x4 t3=>
       subst d8;replace P:=oO P.2;have y3:=oZ P.2.1;obtain⟨gj,d,d9⟩:=oV d;rw[d7] at d;have l3:=qM P.1;refine xP (xA 1 F rfl fun a F=>xJ (xC (qV F rfl l3 (xL (xF (xC ?_))))));have j3:=fE (Nat.le_of_lt P.1) i6;have m3:=zC P.1 i6;refine xW (xP (xA 1 F rfl fun a F=>oI underlying25 sizeOf2 F rfl rfl rfl h5 y3 fun a p4 da F=>aN isAgg2 F rfl rfl (d3.trans (Sm.mono H.sm am.2.2)) da fun a i7 F=>xA 2 F rfl fun a F=>xJ ?_));obtain⟨z5,c5,d⟩:=xB d;obtain⟨z6,c6,d⟩:=xB d;obtain⟨z7,c7,d⟩:=xB d;obtain⟨z8,c8,d⟩:=xB d;refine xD H (by kernel_rfl) fun w H=>vM 0 rfl (by kernel_rfl) (oJ F rfl (fun w l=>xM F rfl) fun a F=>vM 1 rfl (by kernel_rfl) (oJ F rfl (fun w l=>xM F rfl) fun a F=>vM 2 rfl (by kernel_rfl) (oJ F rfl (fun w l=>xM F rfl) fun a F=>vM 3 rfl (by kernel_rfl) (oJ F rfl (fun w l=>xM F rfl) fun a F=>vM 6 rfl (by kernel_rfl) (oJ F rfl (fun w l=>xM F rfl) (fun a F=>?_))))));refine vM 7 rfl (by kernel_rfl) (oJ F rfl (fun w l=>xM F rfl) fun a F=>qY 8 rfl (by kernel_rfl) (vI underlying25 sizeOf2 F rfl rfl rfl b0 c6 fun a p5 db F=>qY 9 rfl (by kernel_rfl) (vlI isAgg2 F rfl rfl H.v db fun a i8 F=>xE H 4 rfl (by kernel_rfl) (oI underlying25 sizeOf2 F rfl rfl rfl (H.l 0 rfl) c5 fun a p6 dc F=>xJ ⟨⟨_,H⟩,?_⟩))));refine xE H 5 rfl (by kernel_rfl) (aN isAgg2 F rfl rfl (Sm.refl _ _) dc fun a i9 F=>xJ ⟨⟨_,H⟩,?_⟩);refine vM 10 rfl (by kernel_rfl) (oJ F rfl (fun w l=>r_add F rfl rfl c7) fun a F=>vM 11 rfl (by kernel_rfl) (oJ F rfl (fun w l=>r_rem F rfl rfl c8) fun a F=>xE H 12 rfl (by kernel_rfl) (oRl underlying25 sizeOf2 F rfl rfl rfl H 0 rfl c5 fun a p7 gk dd F=>xJ ⟨⟨_,H⟩,?_⟩)));refine xE H 13 rfl (by kernel_rfl) ?_;have H:=H.lw;refine oS sizeOf2 F rfl rfl rfl H dd (ix_lt c5) (Eo.int (rm64 c8 (kG c7) (show xZ (2) by decide))) rfl rfl (fun w H=>?_);have H:=H.tl;refine xJ ⟨⟨_,H⟩,?_⟩;refine bF (by kernel_rfl) (qS (xF (xU (qQ F rfl rfl rfl m3 fun a F=>xA 1 F rfl fun a F=>xJ ?_))));replace d:=qX d d9;exact⟨_,Nat.lt_succ_self _,k3+1,t3,(s6.set (x4).toNat z8),ab,⟨P.1,P.2.2⟩,rfl,d,F.su,H⟩
     rintro a w ⟨s5,an,rfl,F,H⟩
     have d:=xN d5;refine xF (xC ?_);obtain⟨z9,c9,d⟩:=xB d;obtain⟨de,df,d⟩:=xB d;obtain⟨gl,bt,d⟩:=xB d;obtain⟨w2,rfl⟩:∃ x,x=w:=⟨_,rfl⟩;have dg:=H.sm;obtain⟨X2,N2,g5,e2,H,ao,gm⟩:=(H.s [3,0,1,2,4] rfl rfl).fza;have K1:=g5.bk;refine xD H (by kernel_rfl) fun w H=>vM 0 rfl (by kernel_rfl) (oJ F rfl (fun w l=>xM F rfl) fun a F=>qY 1 rfl (by kernel_rfl) (oJ F rfl (fun w l=>vG kD F rfl rfl) fun a F=>qY 2 rfl (by kernel_rfl) (vB isAgg2 F rfl rfl (K1.v H.sm) rfl fun a F=>vM 3 rfl (by kernel_rfl) (oJ F rfl (fun w l=>xM F rfl) fun a F=>vM 4 rfl (by kernel_rfl) (oJ F rfl (fun w l=>xM F rfl) (fun a F=>?_))))));refine qY 5 rfl (by kernel_rfl) (vL underlying25 F rfl rfl b0 fun a gn F=>vM 6 rfl (by kernel_rfl) (oJ F rfl (fun w l=>r_sub F rfl rfl c9) fun a F=>qY 7 rfl (by kernel_rfl) (vI underlying25 sizeOf2 F rfl rfl rfl b0 df fun a p8 dh F=>qY 8 rfl (by kernel_rfl) (vlI isAgg2 F rfl rfl (fun w l=>(dg.trans (Sm.mono (H.v w l) ao.2.2))) dh fun a di F=>xE H 9 rfl (by kernel_rfl) (oRl underlying25 sizeOf2 F rfl rfl rfl H 0 rfl bt fun a p9 gp dj F=>oY ?_)))));refine xF ⟨⟨_,H⟩,?_⟩;refine xE H 10 rfl (by kernel_rfl) ?_;have H:=H.lw;refine oS sizeOf2 F rfl rfl rfl H dj (ix_lt bt) (Eo.int di) rfl rfl (fun w H=>?_);have H:=H.tl;refine xJ ⟨⟨_,H⟩,?_⟩;refine bF (by kernel_rfl) (xF (xC (xP (xA 1 F rfl fun a F=>oL underlying148 F rfl rfl (H.r 2 rfl) fun a bu F=>xA 1 F rfl fun a F=>xJ ?_))));obtain⟨o4,d,dk⟩:=xK d;refine xX (fun a w=>∃ (s7:List Int) (a1:Value),o4= .nx s7∧Sk a 156 [(2,vK i),(3,vK j),(6,p),(8,vK A),(11,a1),(24,n),(25,xG (f.cons.length:Int)),(26,xG (t:Int)),(36,W),(37,xG (D.length:Int)),(38,xG (E:Int))]∧Sep X2 N2 w2 w [rl 1 xH 2 a1 s7,bx A [xG C.rel,V] 119,rw N0 2 aC 150 p h,bx i [xG K.size,T] 31]) ?_ ?_
     ·
      refine xW ?_;obtain⟨dl,dm,d⟩:=qE d;refine oU (fun g a w=>∃ (k4:Nat) (Y:List told) (s8:List Int) (ac:Value),(k4≤h.length∧h.drop k4=Y)∧Y.length=g∧qJ dl Y k4 s8=some o4∧Sk a 156 [(80,xG (k4:Int)),(2,vK i),(3,vK j),(6,p),(8,vK A),(11,ac),(24,n),(25,xG (f.cons.length:Int)),(26,xG (t:Int)),(36,W),(37,xG (D.length:Int)),(38,xG (E:Int)),(78,p),(79,xG (h.length:Int))]∧Sep X2 N2 w2 w [rl 1 xH 2 ac s8,bx A [xG C.rel,V] 119,rw N0 2 aC 150 p h,bx i [xG K.size,T] 31]) h.length ?_ ?_
      ·
       exact⟨0,h,(s5.set (f.vars).toNat de),an,⟨Nat.zero_le _,rfl⟩,rfl,d,F.su,H⟩
      intro g6 a w ⟨k4,Y,s8,ac,I,dq,d,F,H⟩
      cases Y with
      | nil=>
       replace d:=qH d;have q4:=qG I.1 I.2;have l4:=vA q4;refine xP (xA 1 F rfl fun a F=>xJ (xC (qT F rfl l4 (oM (oR (oR (vH ?_)))))));refine xF ?_;exact⟨s8,ac,(vE d),F.su,H⟩
      | cons x5 Y=>
       subst dq;replace I:=oO I.2;have y4:=oZ I.2.1;obtain⟨gq,d,bv⟩:=oV d;rw[dm] at d;have l4:=qM I.1;refine xP (xA 1 F rfl fun a F=>xJ (xC (qV F rfl l4 (xL (xF (xC ?_))))));have j4:=fE (Nat.le_of_lt I.1) bu;have m4:=zC I.1 bu;refine xW (xP ?_);obtain⟨w3,rfl⟩:∃ x,x=w:=⟨_,rfl⟩;have gr:=H.sm;obtain⟨X3,N3,g7,e3,H,bw,gs⟩:=(H.s [2,0,1,3] rfl rfl).fza;have dr:=g7.rd;refine oI underlying148 sizeOf150 F rfl rfl rfl dr y4 fun a gt ds F=>olA isAgg150 sizeOf150 F rfl rfl H.sm ds fun a gu du F=>oA zeroValue150 F rfl rfl H (fun a w b4 H F=>?_);obtain⟨dw,rfl,c0,gv⟩:=aC.o du;refine oWA (vs:=[dw,xG x5.var]) sizeOf150 F rfl rfl rfl H (oc (H.a c0).one (oc rfl on)) rfl rfl fun w H=>qO (xA 1 F rfl fun a F=>oH fa150_1 F rfl rfl rfl fun a F=>oB isAgg3 F rfl rfl (H.b 0 rfl) rfl (fun a F=>?_));obtain⟨gw,dx,d⟩:=xB d;refine oI underlying25 sizeOf2 F rfl rfl rfl (H.l 1 rfl) dx fun a gx dy F=>aN isAgg2 F rfl rfl (Sm.refl _ _) dy fun a gy F=>xA 1 F rfl fun a F=>xJ (qP F rfl (fun b1=>?_) (fun b1=>?_))
       ·
        replace d:=vR b1 d;refine xU (xA 1 F rfl fun a F=>oH fa150_0 F rfl rfl rfl fun a F=>oB isAgg25 F rfl rfl (H.b 0 rfl) rfl (fun a F=>?_));obtain⟨z13,dz,d⟩:=xB d;refine oG F rfl call105 rfl (impl_plus_c z13 dz _ aA (H.l 1 rfl) (H.a c0)) (fun a vv w ⟨e0,gz,S⟩ F=>?_);subst vv;have H:=H.r1 S n0;refine xA 1 F rfl fun a F=>oY (qS (xF (xU (qQ F rfl rfl rfl m4 fun a F=>xA 1 F rfl fun a F=>xJ ?_))));replace d:=qX d bv;exact⟨_,Nat.lt_succ_self _,k4+1,Y,z13,e0,⟨I.1,I.2.2⟩,rfl,d,F.su,((bw.1 (H.s [0,3,4] rfl rfl) (Ns.all ⟨n0,⟨n0,⟨n0,trivial⟩⟩⟩)).s [1,2,0,3] rfl rfl)⟩
       replace d:=vQ b1 d;refine xL (qS (xF (xU (qQ F rfl rfl rfl m4 fun a F=>xA 1 F rfl fun a F=>xJ ?_))));replace d:=qX d bv;exact⟨_,Nat.lt_succ_self _,k4+1,Y,s8,ac,⟨I.1,I.2.2⟩,rfl,d,F.su,((bw.1 (H.s [1,2,3] rfl rfl) (Ns.all ⟨n0,⟨n0,⟨n0,trivial⟩⟩⟩)).s [1,2,0,3] rfl rfl)⟩
     rintro a w ⟨s7,a1,rfl,F,H⟩
     have d:=xN dk;refine xF (xP (xA 1 F rfl fun a F=>?_));obtain⟨aq,c14,d⟩:=xB d;refine oKI F rfl call106 rfl H (fG aq c14 _ aA (H.l 0 rfl) (show xZ (1) by decide)) fun a w H iz1 F=>xA 1 F rfl fun a F=>xJ (xC (xW (xP (xA 3 F rfl fun a F=>?_))));refine xJ (qP F rfl (fun b2=>?_) (fun b2=>?_))
     ·
      replace d:=vR b2 d;refine oM (x_bx rfl (oR (vH (xF (xU (qQ F rfl rfl rfl m2 fun a F=>xA 1 F rfl fun a F=>xJ ?_))))));replace d:=qX d az;exact⟨_,Nat.lt_succ_self _,E+1,X,h,p,⟨G.1,G.2.2⟩,rfl,d,F.su,((am.1 (ao.1 (H.s [1,2,3] rfl rfl) (Ns.all ⟨n0,⟨n0,⟨n0,trivial⟩⟩⟩)) (Ns.all ⟨n0,⟨n0,⟨n0,⟨n0,trivial⟩⟩⟩⟩)).s [0,2,3,1,4] rfl rfl)⟩
     replace d:=vQ b2 d;refine xP (xA 1 F rfl fun a F=>oH kD F rfl rfl rfl fun a F=>oB isAgg2 F rfl rfl (K1.o H.sm) rfl fun a F=>xA 2 F rfl fun a F=>xJ (qP F rfl (fun b3=>?_) (fun b3=>?_)))
     ·
      replace d:=vR b3 d;refine xP (xA 2 F rfl fun a F=>xJ (xT (vJ (oE (vJ (oE ?_))))));refine oE ?_;replace d:=zR d az;refine vJ (oE ?_);replace d:=zQ d bq;refine vJ (oE (oE ?_));replace d:=zR d bp;refine vJ (oE ?_);replace d:=zQ d bn;refine oE ?_;have H:=(am.1 (ao.1 H (Ns.all ⟨n0,⟨n0,⟨n0,⟨n0,trivial⟩⟩⟩⟩)) (Ns.all ⟨n0,⟨n0,⟨n0,⟨n0,⟨n0,trivial⟩⟩⟩⟩⟩));refine vV F rfl (oD F rfl) (oD F rfl) ?_;obtain rfl:=oj d;exact⟨_,rfl,aE,rfl,((H.nl 1 xH 2).s [0] rfl rfl)⟩
     replace d:=vQ b3 d;refine xL (qS (xF (xC (xP (xA 1 F rfl fun a F=>oL underlying148 F rfl rfl (H.r 2 rfl) fun a i17 F=>xA 1 F rfl fun a F=>xJ ?_)))));obtain⟨o5,d,hk5⟩:=xK d;refine xX (fun a w=>∃ (s9:List told) (v24:Value),o5= .nx s9∧Sk a 156 [(2,vK i),(3,vK j),(6,v24),(8,vK A),(11,a1),(16,xG aq),(24,n),(25,xG (f.cons.length:Int)),(26,xG (t:Int)),(36,W),(37,xG (D.length:Int)),(38,xG (E:Int))]∧Sep X2 N2 w2 w [rl 1 xH 2 a1 s7,bx A [xG C.rel,V] 119,rw N0 2 aC 150 v24 s9,bx i [xG K.size,T] 31]) ?_ ?_
     ·
      refine xW ?_;obtain⟨fl5,hf5,d⟩:=qE d;refine oU (fun g a w=>∃ (Z:Nat) (t5 a7:List told) (a2:Value),(Z≤h.length∧h.drop Z=t5)∧t5.length=g∧qJ fl5 t5 Z a7=some o5∧Sk a 156 [(107,xG (Z:Int)),(2,vK i),(3,vK j),(6,a2),(8,vK A),(11,a1),(16,xG aq),(24,n),(25,xG (f.cons.length:Int)),(26,xG (t:Int)),(36,W),(37,xG (D.length:Int)),(38,xG (E:Int)),(105,a2),(106,xG (h.length:Int))]∧Sep X2 N2 w2 w [rl 1 xH 2 a1 s7,bx A [xG C.rel,V] 119,rw N0 2 aC 150 a2 a7,bx i [xG K.size,T] 31]) h.length ?_ ?_
      ·
       exact⟨0,h,h,p,⟨Nat.zero_le _,rfl⟩,rfl,d,F.su,H⟩
      intro g8 a w ⟨Z,t5,a7,a2,J,hg5,d,F,H⟩
      cases t5 with
      | nil=>
       replace d:=qH d;have q5:=qG J.1 J.2;have l5:=vA q5;refine xP (xA 1 F rfl fun a F=>xJ (xC (qT F rfl l5 (oM (oR (oR (vH ?_)))))));refine xF ?_;exact⟨a7,a2,(vE d),F.su,H⟩
      | cons x6 t5=>
       subst hg5;replace J:=oO J.2;have y5:=oZ J.2.1;obtain⟨h0,d,hn5⟩:=oV d;rw[hf5] at d;have l5:=qM J.1;refine xP (xA 1 F rfl fun a F=>xJ (xC (qV F rfl l5 (xL (xF (xC ?_))))));have j5:=fE (Nat.le_of_lt J.1) i17;have m5:=zC J.1 i17;refine xW (xP (xA 1 F rfl fun a F=>?_));obtain⟨z15,c15,d⟩:=xB d;obtain⟨w4,rfl⟩:∃ x,x=w:=⟨_,rfl⟩;have sm4:=H.sm;obtain⟨X4,N4,g9,e4,H,th4,ab4⟩:=(H.s [2,0,1,3] rfl rfl).fza;have e7:=g9.rd;refine oI underlying148 sizeOf150 F rfl rfl rfl e7 c15 fun a p12 e8 F=>olA isAgg150 sizeOf150 F rfl rfl H.sm e8 fun a v26 e9 F=>oA zeroValue150 F rfl rfl H fun a w b5 H F=>xA 1 F rfl fun a F=>?_;obtain⟨ea,rfl,h27,i18⟩:=aC.o e9;refine oWA (vs:=[ea,xG z15.var]) sizeOf150 F rfl rfl rfl H (oc (H.a h27).one (oc rfl on)) rfl rfl fun w H=>qO (oH fa150_0 F rfl rfl rfl fun a F=>oB isAgg25 F rfl rfl (H.b 0 rfl) rfl fun a F=>xA 1 F rfl fun a F=>?_);obtain⟨z16,ec,d⟩:=xB d;refine oI underlying25 sizeOf2 F rfl rfl rfl h27 ec fun a p13 ed F=>aN isAgg2 F rfl rfl H.sm ed fun a i19 F=>xA 1 F rfl fun a F=>xJ (qP F rfl (fun b7=>?_) (fun b7=>?_))
       ·
        replace d:=vR b7 d;refine xU (xA 2 F rfl fun a F=>oH fa150_0 F rfl rfl rfl fun a F=>oB isAgg25 F rfl rfl (H.b 0 rfl) rfl fun a F=>xA 1 F rfl fun a F=>?_);obtain⟨z17,ee,d⟩:=xB d;refine oG F rfl call105 rfl (impl_plus_c z17 ee _ aA (H.a h27) (H.l 1 rfl)) (fun a vv w ⟨ef,hv3,S⟩ F=>?_);subst vv;have H:=H.r1 S n0;have H:=(th4.1 H (Ns.all ⟨n0,⟨n0,⟨n0,⟨n0,⟨n0,trivial⟩⟩⟩⟩⟩));refine oRi underlying148 sizeOf150 F rfl rfl rfl H 0 rfl c15 fun a ha eg eh F=>oFr (s':=1) fa150_0 F rfl rfl eg aC.f0 (RPt.o eh) fun a hb hc ei F=>oSX (vs:=[ef]) F rfl rfl rfl (.inr ⟨sizeOf25,rfl,(H.l 1 rfl).one⟩) H ei (ix_get c15) n0 (fun e q=>(aC.tn0 q.ld)) rfl fun w H=>oY (qS (xF (xU (qQ F rfl rfl rfl m5 fun a F=>xA 1 F rfl fun a F=>xJ ?_))));replace d:=qX d hn5;exact⟨_,Nat.lt_succ_self _,Z+1,t5,(a7.set ((Z:Int)).toNat ({ z15 with left:=z17 })),a2,⟨J.1,J.2.2⟩,rfl,d,F.su,(H.s [2,3,0,4] rfl rfl)⟩
       replace d:=vQ b7 d;refine xL (qS (xF (xU (qQ F rfl rfl rfl m5 fun a F=>xA 1 F rfl fun a F=>xJ ?_))));replace d:=qX d hn5;exact⟨_,Nat.lt_succ_self _,Z+1,t5,a7,a2,⟨J.1,J.2.2⟩,rfl,d,F.su,((th4.1 (H.s [1,2,3] rfl rfl) (Ns.all ⟨n0,⟨n0,⟨n0,trivial⟩⟩⟩)).s [1,2,0,3] rfl rfl)⟩
     rintro a w ⟨s9,v24,rfl,F,H⟩
     have d:=xN hk5;refine xF (xU (xA 3 F rfl fun a F=>kV underlying150 zeroValue150 (fun w=>by simp [sizeOf25,sizeOf3];rfl) F rfl rfl rfl rfl rfl (oc (H.l 0 rfl).one (oc rfl on)) rfl rfl (fun a F=>?_)));have H:=(aC.w iz1 H);refine oR1L (R:=aC) (y:=(told.mk s7 aq)) underlying148 sizeOf150 zeroValue150 rfl rfl F rfl rfl H El.agg (fun a w he H F=>?_);obtain⟨ej,ek,d⟩:=xB d;have H:=H.lw;refine oP (sz:=2) (R:=aC) (z:=(.agg #[aE,xG 0])) (bytes:=32) underlying148 (by kernel_rfl) rfl rfl F rfl rfl rfl (H.s [2,0,1,3] rfl rfl) ek fun a w el H F=>xA 1 F rfl fun a F=>oY (qS (xF (xU (qQ F rfl rfl rfl m2 fun a F=>xA 1 F rfl fun a F=>xJ ?_))));replace d:=qX d az;exact⟨_,Nat.lt_succ_self _,E+1,X,ej,el,⟨G.1,G.2.2⟩,rfl,d,F.su,((am.1 (ao.1 H (Ns.all ⟨n0,⟨n0,⟨n0,trivial⟩⟩⟩)) (Ns.all ⟨n0,⟨n0,⟨n0,⟨n0,trivial⟩⟩⟩⟩)).s [0,3,2,1,4] rfl rfl)⟩
   rintro a w ⟨s3,al,rfl,F,H⟩
   have d:=xN bq;refine qS (xF (xU (qQ F rfl rfl rfl m1 fun a F=>xA 1 F rfl fun a F=>xJ ?_)));replace d:=qX d bp;exact⟨_,Nat.lt_succ_self _,t+1,t1,s3,al,⟨O.1,O.2.2⟩,rfl,d,F.su,H⟩
 rintro a w ⟨U,v4,rfl,F,H⟩
 have d:=xN bn;refine xF (xP (oH kD F rfl rfl rfl fun a F=>oB isAgg2 F rfl rfl (H.b 1 rfl) rfl (fun a F=>?_)));obtain⟨em,en,d⟩:=xB d;refine oRM (sz:=1) (R:=xH) (z:=(xG 0)) (bytes:=8) underlying25 (by kernel_rfl) rfl (by decide) (by decide) (fun w=>⟨rfl,by decide,rfl⟩) F rfl rfl rfl en H fun a w eo H F=>xA 1 F rfl fun a F=>xJ (xC (xP (xA 1 F rfl fun a F=>oL underlying148 F rfl rfl (H.r 1 rfl) fun a i20 F=>xA 1 F rfl fun a F=>oY ?_)));refine xF ?_;obtain⟨o6,d,ep⟩:=xK d;refine xX (fun a w=>∃ (b8:List Int) (ar:Value),o6= .nx b8∧Sk a 156 [(19,ar)]∧Sep [] B M w [rl 1 xH 2 ar b8]) ?_ ?_
 ·
  refine xW ?_;obtain⟨er,es,d⟩:=qE d;refine oU (fun g a w=>∃ (k6:Nat) (t6:List told) (ad:List Int) (ae:Value),(k6≤U.length∧U.drop k6=t6)∧t6.length=g∧qJ er t6 k6 ad=some o6∧Sk a 156 [(140,xG (k6:Int)),(3,vK j),(19,ae),(138,v4),(139,xG (U.length:Int))]∧Sep [] B M w [rl 1 xH 2 ae ad,rw N0 2 aC 150 v4 U,bx j [xG f.vars,n] 35]) U.length ?_ ?_
  ·
   exact⟨0,U,em,eo,⟨Nat.zero_le _,rfl⟩,rfl,d,F.su,H⟩
  intro hf a w ⟨k6,t6,ad,ae,Q,et,d,F,H⟩
  cases t6 with
  | nil=>
   replace d:=qH d;have q6:=qG Q.1 Q.2;have l6:=vA q6;refine xP (xA 1 F rfl fun a F=>xJ (xC (qT F rfl l6 (oM (oR (oR (vH ?_)))))));refine xF ?_;exact⟨ad,ae,(vE d),F.su,(H.s [0] rfl rfl)⟩
  | cons x7 t6=>
   subst et;replace Q:=oO Q.2;have y6:=oZ Q.2.1;obtain⟨hg,d,eu⟩:=oV d;rw[es] at d;have l6:=qM Q.1;refine xP (xA 1 F rfl fun a F=>xJ (xC (qV F rfl l6 (xL (xF (xC ?_))))));have j6:=fE (Nat.le_of_lt Q.1) i20;have m6:=zC Q.1 i20;refine xW (xP ?_);obtain⟨w5,rfl⟩:∃ x,x=w:=⟨_,rfl⟩;have hh:=H.sm;obtain⟨X5,N5,ew,e5,H,ex,hi⟩:=(H.s [1,0,2] rfl rfl).fza;have ey:=ew.rd;refine oI underlying148 sizeOf150 F rfl rfl rfl ey y6 fun a hj ez F=>olA isAgg150 sizeOf150 F rfl rfl H.sm ez fun a hk eI F=>oA zeroValue150 F rfl rfl H (fun a w b6 H F=>?_);obtain⟨eS,rfl,h34,hl⟩:=aC.o eI;refine oWA (vs:=[eS,xG x7.var]) sizeOf150 F rfl rfl rfl H (oc (H.a h34).one (oc rfl on)) rfl rfl fun w H=>xJ ?_;obtain⟨f3,f4,d⟩:=xB d;obtain⟨hm,c21,d⟩:=xB d;obtain⟨w6,rfl⟩:∃ x,x=w:=⟨_,rfl⟩;have f5:=H.sm;obtain⟨X6,N6,ca,e6,H,cb,hn⟩:=(H.s [0,2,1] rfl rfl).mg.fza;have K2:=ca.l.bk;have K3:=ca.r.bk;refine xD H (by kernel_rfl) fun w H=>vM 0 rfl (by kernel_rfl) (oJ F rfl (fun w l=>xM F rfl) fun a F=>qY 1 rfl (by kernel_rfl) (oJ F rfl (fun w l=>vG fa150_1 F rfl rfl) fun a F=>qY 2 rfl (by kernel_rfl) (vB isAgg3 F rfl rfl (K2.v H.sm) rfl fun a F=>qY 3 rfl (by kernel_rfl) (oJ F rfl (fun w l=>vG fa150_0 F rfl rfl) fun a F=>qY 4 rfl (by kernel_rfl) (vB isAgg25 F rfl rfl (K2.v H.sm) rfl (fun a F=>?_))))));refine qY 5 rfl (by kernel_rfl) (oJ F rfl (fun w l=>vG kD F rfl rfl) fun a F=>qY 6 rfl (by kernel_rfl) (vB isAgg2 F rfl rfl (K3.v H.sm) rfl fun a F=>qY 7 rfl (by kernel_rfl) (vI underlying25 sizeOf2 F rfl rfl rfl h34 f4 fun a ho f6 F=>qY 8 rfl (by kernel_rfl) (vlI isAgg2 F rfl rfl (fun w l=>(f5.trans (Sm.mono (H.v w l) cb.2.2))) f6 fun a f7 F=>xE H 9 rfl (by kernel_rfl) (oRl underlying25 sizeOf2 F rfl rfl rfl H 0 rfl c21 fun a hp hq f8 F=>oY ?_)))));refine xF ⟨⟨_,H⟩,?_⟩;refine xE H 10 rfl (by kernel_rfl) ?_;have H:=H.lw;refine oS sizeOf2 F rfl rfl rfl H f8 (ix_lt c21) (Eo.int f7) rfl rfl (fun w H=>?_);have H:=H.tl;refine xJ ⟨⟨_,H⟩,?_⟩;refine bF (by kernel_rfl) (qS (xF (xU (qQ F rfl rfl rfl m6 fun a F=>xA 1 F rfl fun a F=>xJ ?_))));replace d:=qX d eu;exact⟨_,Nat.lt_succ_self _,k6+1,t6,(ad.set (x7.var).toNat f3),ae,⟨Q.1,Q.2.2⟩,rfl,d,F.su,((ex.1 (cb.1 H (Ns.all ⟨n0,trivial⟩)).um (Ns.all ⟨n0,⟨n0,⟨n0,trivial⟩⟩⟩)).s [3,0,2] rfl rfl)⟩
 rintro a w ⟨b8,ar,rfl,F,H⟩
 have d:=xN ep;refine xF (xP (xA 3 F rfl fun a F=>xJ (xT (vV F rfl (oD F rfl) (oD F rfl) ?_))));obtain rfl:=oj d;exact⟨_,rfl,ar,rfl,H⟩
end Go.Proofs.YtgnfibiaaipibaaGreat
