import Derived.Test.YtghihmkhdhjhiaaGreatDoorZ
import Derived.Test.YtghihmkhdhjhiaaGreatDoorNL
import Derived.Test.YtghihmkhdhjhiaaGreatDoorNG
namespace Go.Proofs.YtghihmkhdhjhiaaGreatDoor
open Go.Proofs.Tryz
set_option maxHeartbeats 1000000
set_option linter.unusedVariables false
set_option linter.unusedSimpArgs false
set_option maxRecDepth 100000
open Go.RowKit
def iZ (c:List UInt8):Option ((List UInt8)×Int×Int):=
 some ((c,0,0))
theorem uT {B:Nat→Prop} {i:List UInt8} (r:((List UInt8)×Int×Int)) (j:iZ i=some r) {e:Value} (d:World) (p:∀ c,B c→c<d.heap.size) (n:Bo B d (Sl 1 cD) e i):Calls Tryz.prog 18 #[e] d (Gv (fun v w'=>∃ (f:Nat) (h:Value),v=qC f∧Sep [] B d w' [bx f [h,xC r.2.1,.int .u64 r.2.2] 106]∧Bo B d (Sl 1 cD) h r.1∧xO r.2.1)):=by
 unfold iZ at j
 refine xW (L:=[(0,e)]) func18 rfl rfl rfl (sc rfl sn) (fun a F=>?_);have H:=Sep.start p;refine xV (xA 1 F rfl fun a F=>vE (xA 1 F rfl fun a F=>kY underlying106 zeroValue106 (fun w=>by simp [sizeOf104,sizeOf22,sizeOf3];rfl) F rfl rfl rfl rfl rfl (oc (H.a n).one on) rfl rfl fun a F=>oX F rfl rfl rfl H fun a w t H F=>xA 1 F rfl fun a F=>?_));refine xG (xP (xR F rfl (xX F rfl) ?_));obtain rfl:=oj j;exact⟨_,rfl,t,e,rfl,H,n,(show xO 0 by decide)⟩
def bW (c:List UInt8) (d e:Int):Option (Int×Int×Int):=
 zW (σ:=Int) (
  if (decide (d<(c.length:Int))) then
   xZ (ix c d) fun j=>
   some (.nx (j.toNat:Int))
  else
   some (.nx 0)) fun i=>
 xZ (ck (d+1)) fun f=>
 xZ (nn i) fun h=>
 if (decide (f≤(c.length:Int))) then
  some (i,f,(IntKind.u64.wrap ((IntKind.u64.wrap ((IntKind.u64.wrap (e*6364136223846793005))+h))+1442695040888963407)))
 else
  some ((IntKind.i64.wrap (Go.bits .and .u64 ((IntKind.u64.wrap ((IntKind.u64.wrap ((IntKind.u64.wrap (e*6364136223846793005))+h))+1442695040888963407)) / 2 ^ (40:Int).toNat) 255)),f,(IntKind.u64.wrap ((IntKind.u64.wrap ((IntKind.u64.wrap (e*6364136223846793005))+h))+1442695040888963407)))
theorem jI {B:Nat→Prop} {D:List UInt8} {h p:Int} (r:Int×Int×Int) (d:bW D h p=some r) {f:Nat} {i:Value} {y:List Nat} (e:World) (R:∀ c,B c→c<e.heap.size) (I:Sep y B e e [bx f [i,xC h,.int .u64 p] 106]) (n:Bo B e (Sl 1 cD) i D) (P:xO h):Calls Tryz.prog 71 #[qC f] e (Gv (fun v w'=>v=xC r.1∧Sep y B e w' [bx f [i,xC r.2.1,.int .u64 r.2.2] 106]∧xO r.1∧xO r.2.1)):=by
 unfold bW at d
 refine xW (L:=[(0,qC f)]) func71 rfl rfl rfl (sc rfl sn) (fun a F=>?_);have H:=I;refine xV (xA 1 F rfl fun a F=>vE (xA 1 F rfl fun a F=>xG (xF ?_)));refine xF (xQ H (by kernel_rfl) (by kernel_rfl) (xM F rfl (fun w l=>xL F rfl) fun a F=>xM F rfl (fun w l=>oY F rfl) fun a F=>xM F rfl (fun w l=>xU rV F rfl rfl) fun a F=>qB isAgg3 F rfl rfl (H.qb 0 rfl) rfl fun a F=>xM F rfl (fun w l=>xL F rfl) fun a F=>xM F rfl (fun w l=>oY F rfl) fun a F=>xM F rfl (fun w l=>xU xBw F rfl rfl) fun a F=>qB isAgg22 F rfl rfl (H.qb 0 rfl) rfl fun a F=>qL underlying22 F rfl rfl n (fun a S F=>?_)));refine xM F rfl (fun w l=>mT F rfl rfl) fun a F=>kT fun w H=>xH ?_;obtain⟨J,d,G⟩:=xT d;refine oR (fun a w=>∃ (j:Int),J= .nx j∧Sk a 62 [(0,qC f),(3,xC j)]∧Sep y B e w [bx f [i,xC h,.int .u64 p] 106]∧xO j) ?_ ?_
 ·
  refine qS F rfl (fun t=>?_) (fun t=>?_)
  ·
   replace d:=vY t d;refine xQ H (by kernel_rfl) (by kernel_rfl) (xM F rfl (fun w l=>xL F rfl) fun a F=>xM F rfl (fun w l=>oY F rfl) fun a F=>xM F rfl (fun w l=>xU xBw F rfl rfl) fun a F=>qB isAgg22 F rfl rfl (H.qb 0 rfl) rfl fun a F=>xM F rfl (fun w l=>xL F rfl) fun a F=>xM F rfl (fun w l=>oY F rfl) fun a F=>xM F rfl (fun w l=>xU rV F rfl rfl) fun a F=>qB isAgg3 F rfl rfl (H.qb 0 rfl) rfl (fun a F=>?_));obtain⟨K,M,d⟩:=xB d;refine qI underlying22 sizeOf5 F rfl rfl rfl n M fun a T N F=>qlU isAgg5 F rfl rfl H.q N fun a F=>xM F rfl (fun w l=>xLs underlying5 underlying3 F rfl) fun a F=>xM F rfl (fun w l=>qU F rfl) fun a F=>kT fun w H=>xH ?_;exact⟨(K.toNat:Int),(zL d),F.su,H,(xJm _)⟩
  replace d:=vX t d;refine xS (xH ?_);exact⟨0,(zL d),F.su,H,(show xO (0) by decide)⟩
 rintro a w ⟨j,rfl,F,H,A⟩
 have d:=xY G;refine xH (xV (xA 1 F rfl fun a F=>qJ F rfl rfl fun a F=>oD rV F rfl rfl rfl fun a F=>oB isAgg3 F rfl rfl (H.b 0 rfl) rfl (fun a F=>?_)));obtain⟨U,C,d⟩:=xB d;refine cR F rfl rfl rfl C fun a F=>qJ F rfl rfl fun a F=>oD rV F rfl rfl rfl fun a F=>oW sizeOf3 F rfl rfl rfl H rfl rfl rfl fun w H=>vE (xA 2 F rfl fun a F=>qJ F rfl rfl (fun a F=>?_));refine oD xAz F rfl rfl rfl fun a F=>oB isAgg104 F rfl rfl (H.b 0 rfl) rfl fun a F=>xPd F rfl rfl rfl fun a F=>xA 1 F rfl fun a F=>?_;obtain⟨O,E,d⟩:=xB d
 have V:xO O:=by rw[(iX E).2];exact A
 refine oU1 underlying3 underlying104 F rfl rfl A E fun a F=>xMp F rfl rfl rfl fun a F=>xMp F rfl rfl rfl fun a F=>qJ F rfl rfl fun a F=>oD xAz F rfl rfl rfl fun a F=>oW sizeOf104 F rfl rfl rfl H rfl rfl rfl fun w H=>xG (xF (xF (xQ H (by kernel_rfl) (by kernel_rfl) ?_)));refine xM F rfl (fun w l=>xL F rfl) fun a F=>xM F rfl (fun w l=>oY F rfl) fun a F=>xM F rfl (fun w l=>xU rV F rfl rfl) fun a F=>qB isAgg3 F rfl rfl (H.qb 0 rfl) rfl fun a F=>xM F rfl (fun w l=>xL F rfl) fun a F=>xM F rfl (fun w l=>oY F rfl) fun a F=>xM F rfl (fun w l=>xU xBw F rfl rfl) fun a F=>qB isAgg22 F rfl rfl (H.qb 0 rfl) rfl fun a F=>qL underlying22 F rfl rfl n fun a Q F=>xM F rfl (fun w l=>xIh F rfl rfl) fun a F=>kT (fun w H=>?_);refine xH (qS F rfl (fun x=>?_) (fun x=>?_))
 ·
  replace d:=vY x d;refine xV (xA 2 F rfl fun a F=>xG (xP (oJ (xR F rfl (xX F rfl) ?_))));obtain rfl:=oj d;exact⟨_,rfl,rfl,H,A,(kQ C)⟩
 replace d:=vX x d;refine xS (xH (xV (xA 1 F rfl fun a F=>qJ F rfl rfl fun a F=>oD xAz F rfl rfl rfl fun a F=>oB isAgg104 F rfl rfl (H.b 0 rfl) rfl fun a F=>xOx F rfl rfl (by decide) fun a F=>xOt F rfl rfl rfl fun a F=>oUw underlying104 underlying2 F rfl rfl (fun a F=>?_))));refine xA 1 F rfl fun a F=>xG (xP (xR F rfl (xX F rfl) ?_));obtain rfl:=oj d;exact⟨_,rfl,rfl,H,(wr64 _),(kQ C)⟩
def oH (f:List UInt8) (h i d:Int):Option (Int×Int×Int):=
 if (decide (d≤1)) then
  some (0,h,i)
 else
  xZ (bW f h i) fun c=>
  if (decide (200<d)) then
   xZ (ck (c.1*256)) fun j=>
   xZ (bW f c.2.1 c.2.2) fun e=>
   xZ (ck (j+e.1)) fun n=>
   xZ (rm n d) fun p=>
   some (p,e.2.1,e.2.2)
  else
   xZ (rm c.1 d) fun t=>
   some (t,c.2.1,c.2.2)
theorem oO {B:Nat→Prop} {G:List UInt8} {j t n:Int} (r:Int×Int×Int) (d:oH G j t n=some r) {e:Nat} {h:Value} {p:List Nat} (f:World) (hN:∀ c,B c→c<f.heap.size) (R:Sep p B f f [bx e [h,xC j,.int .u64 t] 106]) (D:Bo B f (Sl 1 cD) h G) (E:xO j) (I:xO n):Calls Tryz.prog 41 #[qC e,xC n] f (Gv (fun v w'=>v=xC r.1∧Sep p B f w' [bx e [h,xC r.2.1,.int .u64 r.2.2] 106]∧xO r.1∧xO r.2.1)):=by
 unfold oH at d
 refine xW (L:=[(0,qC e),(1,xC n)]) func41 rfl rfl rfl (sc rfl (sc rfl sn)) (fun a F=>?_);have H:=R;refine xV (xA 1 F rfl fun a F=>xG (xF (xV (xA 2 F rfl fun a F=>zE ?_))));refine xH (qS F rfl (fun x=>?_) (fun x=>?_))
 ·
  replace d:=vY x d;refine xV (xA 1 F rfl fun a F=>xG (xP (oJ (xR F rfl (xX F rfl) ?_))));obtain rfl:=oj d;exact⟨_,rfl,rfl,H,(show xO (0) by decide),E⟩
 replace d:=vX x d;refine xS (xH (xV (xA 1 F rfl fun a F=>?_)));obtain⟨i,T,d⟩:=xB d;obtain⟨X1,K1,P⟩:=Sep.lend (K:=[bx e [h,xC j,.int .u64 t] 106]) (L:=[]) H;refine oG F rfl call71 rfl (jI i T _ H.hN K1 (H.u D) E) (fun a A w ⟨Z,S,U,M⟩ F=>?_);subst A;have H:Sep p B f w [bx e [h,xC i.2.1,.int .u64 i.2.2] 106]:=P S;refine xA 1 F rfl fun a F=>xG (xF (xV (xA 2 F rfl fun a F=>xG (qS F rfl (fun y=>?_) (fun y=>?_)))))
 ·
  replace d:=vY y d;refine oM (xA 1 F rfl fun a F=>?_);obtain⟨z2,V,d⟩:=xB d;refine xGq F rfl rfl rfl V fun a F=>xA 1 F rfl fun a F=>?_;obtain⟨C,W,d⟩:=xB d;obtain⟨X2,X,Q⟩:=Sep.lend (K:=[bx e [h,xC i.2.1,.int .u64 i.2.2] 106]) (L:=[]) H;refine oG F rfl call71 rfl (jI C W _ H.hN X (H.u D) M) (fun a A w ⟨a0,S,i3,Y⟩ F=>?_);subst A;have H:Sep p B f w [bx e [h,xC C.2.1,.int .u64 C.2.2] 106]:=Q S;obtain⟨z4,J,d⟩:=xB d;refine cR F rfl rfl rfl J fun a F=>xA 1 F rfl fun a F=>vE (xA 2 F rfl fun a F=>?_);obtain⟨z5,N,d⟩:=xB d;refine xKh F rfl rfl rfl N fun a F=>xA 1 F rfl fun a F=>xG (xP (xR F rfl (xX F rfl) ?_));obtain rfl:=oj d;exact⟨_,rfl,rfl,H,(xBv N (kQ J) I),Y⟩
 replace d:=vX y d;refine xS (xH (xV (xA 2 F rfl fun a F=>?_)));obtain⟨z6,O,d⟩:=xB d;refine xKh F rfl rfl rfl O fun a F=>xA 1 F rfl fun a F=>xG (xP (xR F rfl (xX F rfl) ?_));obtain rfl:=oj d;exact⟨_,rfl,rfl,H,(xBv O U I),M⟩
def aE (d:List UInt8) (e f h:Int):Option (Bool×Int×Int):=
 xZ (oH d e f h) fun c=>
 some ((c.1==0),c.2.1,c.2.2)
theorem gU {B:Nat→Prop} {x:List UInt8} {h n i:Int} (r:Bool×Int×Int) (j:aE x h n i=some r) {e:Nat} {f:Value} {p:List Nat} (d:World) (O:∀ c,B c→c<d.heap.size) (E:Sep p B d d [bx e [f,xC h,.int .u64 n] 106]) (y:Bo B d (Sl 1 cD) f x) (A:xO h) (C:xO i):Calls Tryz.prog 39 #[qC e,xC i] d (Gv (fun v w'=>v= .bool r.1∧Sep p B d w' [bx e [f,xC r.2.1,.int .u64 r.2.2] 106]∧xO r.2.1)):=by
 unfold aE at j
 refine xW (L:=[(0,qC e),(1,xC i)]) func39 rfl rfl rfl (sc rfl (sc rfl sn)) (fun a F=>?_);have H:=E;refine xV (xA 1 F rfl fun a F=>vE (xA 2 F rfl fun a F=>?_));obtain⟨t,G,j⟩:=xB j;obtain⟨P,K1,D⟩:=Sep.lend (K:=[bx e [f,xC h,.int .u64 n] 106]) (L:=[]) H;refine oG F rfl call41 rfl (oO t G _ H.hN K1 (H.u y) A C) (fun a I w ⟨M,S,N,J⟩ F=>?_);subst I;have H:Sep p B d w [bx e [f,xC t.2.1,.int .u64 t.2.2] 106]:=D S;refine xA 2 F rfl fun a F=>xG (xP (xR F rfl (xX F rfl) ?_));obtain rfl:=oj j;exact⟨_,rfl,rfl,H,J⟩
def zB (e:List UInt8) (f h:Int) (d:List Int):Option (Int×Int×Int):=
 xZ (oH e f h (d.length:Int)) fun c=>
 xZ (ix d c.1) fun i=>
 some (i,c.2.1,c.2.2)
theorem qO {B:Nat→Prop} {x:List UInt8} {i j:Int} {y:List Int} (r:Int×Int×Int) (f:zB x i j y=some r) {e:Nat} {h:Value} {n:Value} {p:List Nat} (d:World) (T:∀ c,B c→c<d.heap.size) (G:Sep p B d d [bx e [h,xC i,.int .u64 j] 106]) (C:Bo B d (Sl 1 cD) h x) (D:xO i) (A:Bo B d (Sl 1 xI) n y):Calls Tryz.prog 68 #[qC e,n] d (Gv (fun v w'=>v=xC r.1∧Sep p B d w' [bx e [h,xC r.2.1,.int .u64 r.2.2] 106]∧xO r.1∧xO r.2.1)):=by
 unfold zB at f
 refine xW (L:=[(0,qC e),(1,n)]) func68 rfl rfl rfl (sc rfl (sc rfl sn)) (fun a F=>?_);have H:=G;refine xV (xA 1 F rfl fun a F=>vE (xA 3 F rfl fun a F=>oL underlying32 F rfl rfl A (fun a I F=>?_)));obtain⟨t,J,f⟩:=xB f;obtain⟨U,K1,E⟩:=Sep.lend (K:=[bx e [h,xC i,.int .u64 j] 106]) (L:=[]) H;refine oG F rfl call41 rfl (oO t J _ H.hN K1 (H.u C) D I) (fun a M w ⟨R,S,V,N⟩ F=>?_);subst M;have H:Sep p B d w [bx e [h,xC t.2.1,.int .u64 t.2.2] 106]:=E S;obtain⟨W,O,f⟩:=xB f;refine oI underlying32 sizeOf2 F rfl rfl rfl A O fun a X P F=>olI isAgg2 F rfl rfl H.sm P fun a Q F=>xA 1 F rfl fun a F=>xG (xP (xR F rfl (xX F rfl) ?_));obtain rfl:=oj f;exact⟨_,rfl,rfl,H,Q,N⟩
def aI (N:Nat) (f h:Int):Option Int:=
 zW (σ:=Int×Int) (
  fE (σ:=Int×Int) (ρ:=Int) (fun(s:Int×Int)=>
    match s with
    | (c,d)=>
    if (decide (0<c)) then
     xZ (ck (d*f)) fun i=>
     xZ (ck (c - 1)) fun j=>
     some (.go (j,i))
    else
     some (.brk (c,d))) N (h,1)) fun(n,e)=>
 some e
theorem tQ {B:Nat→Prop} {N:Nat} {e f:Int} (r:Int) (d:aI N e f=some r)  (h:World) (J:∀ c,B c→c<h.heap.size) (S:xO e) (D:xO f):Calls Tryz.prog 72 #[xC e,xC f] h (gF r h):=by
 unfold aI at d
 refine xW (L:=[(0,xC e),(1,xC f)]) func72 rfl rfl rfl (sc rfl (sc rfl sn)) (fun a F=>?_);have H:=Sep.start J;refine xV (xA 1 F rfl fun a F=>vE (xA 1 F rfl fun a F=>xG (xF ?_)));obtain⟨y,d,E⟩:=xT d;refine oR (fun a w=>∃ (t n:Int),y= .nx (t,n)∧Sk a 14 [(5,xC n)]∧Sep [] B h w []∧xO t∧xO n) ?_ ?_
 ·
  refine oQ ?_;obtain⟨G,I,d⟩:=dE d;refine qY (fun g a w=>∃ (i j:Int),fE G g (i,j)=some y∧Sk a 14 [(0,xC e),(1,xC i),(5,xC j)]∧Sep [] B h w []∧xO i∧xO j) N ?_ ?_
  ·
   exact⟨f,1,d,F.su,H,D,(show xO (1) by decide)⟩
  intro V a w ⟨i,j,d,F,H,K,M⟩;obtain⟨T,O,U,d,x⟩:=aQ d;rw[I] at d;refine xF (xV (xA 2 F rfl fun a F=>xG (qS F rfl (fun p=>?_) (fun p=>?_))))
  ·
   replace d:=vY p d;refine xS (xH (xF (oQ (oM (xA 2 F rfl fun a F=>?_)))));obtain⟨P,A,d⟩:=xB d;refine xGq F rfl rfl rfl A fun a F=>xA 1 F rfl fun a F=>zE (vK (xH (oM (xA 1 F rfl fun a F=>?_))));obtain⟨Q,C,d⟩:=xB d;refine fL F rfl rfl rfl C fun a F=>xA 1 F rfl fun a F=>xG ?_;replace d:=zM d x;exact⟨O,(by omega),Q,P,d,F.su,H,(kQ C),(kQ A)⟩
  replace d:=vX p d;refine qV (qX (qX ?_));replace d:=jO d x;refine kF (xH ?_);exact⟨i,j,(zL d),F.su,H,K,M⟩
 rintro a w ⟨t,n,rfl,F,H,W,R⟩
 have d:=xY E;refine xH (xV (xA 2 F rfl fun a F=>xG (xP (xR F rfl (xX F rfl) ?_))));obtain rfl:=oj d;exact⟨⟨rfl,H.bl⟩,R⟩
def kN (N:Nat) (f h i:Int):Option (List Int):=
 xZ (mkz (0:Int) h) fun j=>
 xZ (ck (h - 1)) fun n=>
 zW (σ:=Int×Int×(List Int)) (
  fE (σ:=Int×Int×(List Int)) (ρ:=(List Int)) (fun(s:Int×Int×(List Int))=>
    match s with
    | (e,c,d)=>
    if (decide (0≤c)) then
     xZ (rm e f) fun p=>
     xZ (ix d c) fun A=>
     xZ (dv e f) fun t=>
     xZ (ck (c - 1)) fun x=>
     some (.go (t,x,(d.set (c).toNat p)))
    else
     some (.brk (e,c,d))) N (i,n,j)) fun(B,C,y)=>
 some y
theorem lU {B:Nat→Prop} {N:Nat} {h t i:Int} (r:(List Int)) (d:kN N h t i=some r)  (j:World) (Y:∀ c,B c→c<j.heap.size) (S:xO h) (a8:xO t) (T:xO i):Calls Tryz.prog 73 #[xC h,xC t,xC i] j (Gv (fun v w'=>∃ (E:Value),v=E∧Sep [] B j w' [rl 1 xI 2 E r])):=by
 unfold kN at d
 refine xW (L:=[(0,xC h),(1,xC t),(2,xC i)]) func73 rfl rfl rfl (sc rfl (sc rfl (sc rfl sn))) (fun a F=>?_);have H:=Sep.start Y;refine xV (xA 1 F rfl fun a F=>vE (xA 1 F rfl fun a F=>?_));obtain⟨Z,c1,d⟩:=xB d;refine oRM (sz:=1) (R:=xI) (z:=(xC 0)) (bytes:=8) underlying32 (by kernel_rfl) rfl (by decide) (by decide) (fun w=>⟨rfl,by decide,rfl⟩) F rfl rfl rfl c1 H fun a w v1 H F=>xA 1 F rfl fun a F=>xG (xF (xV (xA 1 F rfl fun a F=>?_)));obtain⟨z2,G,d⟩:=xB d;refine fL F rfl rfl rfl G fun a F=>xA 1 F rfl fun a F=>xG ?_;obtain⟨J,d,U⟩:=xT d;refine oR (fun a w=>∃ (A C:Int) (D:List Int) (x:Value),J= .nx (A,C,D)∧Sk a 27 [(7,x)]∧Sep [] B j w [rl 1 xI 2 x D]∧xO A∧xO C) ?_ ?_
 ·
  refine oQ ?_;obtain⟨V,W,d⟩:=dE d;refine qY (fun g a w=>∃ (n e:Int) (f:List Int) (p:Value),fE V g (n,e,f)=some J∧Sk a 27 [(0,xC h),(2,xC n),(7,p),(8,xC e)]∧Sep [] B j w [rl 1 xI 2 p f]∧xO n∧xO e) N ?_ ?_
  ·
   exact⟨i,z2,Z,v1,d,F.su,H,T,(kQ G)⟩
  intro g1 a w ⟨n,e,f,p,d,F,H,K,i2⟩;obtain⟨a9,t1,aa,d,I⟩:=aQ d;rw[W] at d;refine xF (xV (xA 2 F rfl fun a F=>xG (qS F rfl (fun y=>?_) (fun y=>?_))))
  ·
   replace d:=vY y d;refine xS (xH (xF (oQ (xV (xA 4 F rfl fun a F=>?_)))));obtain⟨z3,M,d⟩:=xB d;refine xKh F rfl rfl rfl M (fun a F=>?_);obtain⟨z4,O,d⟩:=xB d;refine oRl underlying32 sizeOf2 F rfl rfl rfl H 0 rfl O (fun a p1 h1 X F=>?_);have H:=H.lw;refine oS sizeOf2 F rfl rfl rfl H X (fQ O) (Eo.int (xBv M K S)) rfl rfl (fun w H=>?_);have H:=H.tl;refine xG (oM (xA 2 F rfl fun a F=>?_));obtain⟨z5,P,d⟩:=xB d;refine xOw F rfl rfl rfl P fun a F=>xA 1 F rfl fun a F=>zE (vK (xH (oM (xA 1 F rfl fun a F=>?_))));obtain⟨z6,Q,d⟩:=xB d;refine fL F rfl rfl rfl Q fun a F=>xA 1 F rfl fun a F=>xG ?_;replace d:=zM d I;exact⟨t1,(by omega),z5,z6,(f.set (e).toNat z3),p,d,F.su,H,(xNj P),(kQ Q)⟩
  replace d:=vX y d;refine qV (qX (qX ?_));replace d:=jO d I;refine kF (xH ?_);exact⟨n,e,f,p,(zL d),F.su,H,K,i2⟩
 rintro a w ⟨A,C,D,x,rfl,F,H,i3,i4⟩
 have d:=xY U;refine xH (xV (xA 2 F rfl fun a F=>xG (xP (xR F rfl (xX F rfl) ?_))));obtain rfl:=oj d;exact⟨_,rfl,x,rfl,H⟩
def aY (N:Nat) (d:List UInt8) (t x i e:Int):Option (Rel×Int×Int):=
 xZ (oH d t x 5) fun f=>
 xZ (aI N i e) fun y=>
 zW (σ:=Int×Int×(List (List Int))) (
  dQ (σ:=Int×Int×(List (List Int))) (ρ:=Rel×Int×Int) (fun(A:Nat) (s:Int×Int×(List (List Int)))=>
    match s with
    | (B,C,j)=>
    zW (σ:=Bool×Int×Int) (
     xZ (oH d B C 5) fun c=>
     if (decide (c.1≤f.1)) then  some (.nx (true,c.2.1,c.2.2)) else  xZ (aE d c.2.1 c.2.2 8) fun h=>
      some (.nx (h.1,h.2.1,h.2.2))) fun(D,n,p)=>
    if D then
     xZ (kN N i e (A:Int)) fun E=>
     xZ (ap j ([E])) fun F=>
     some (.go (n,p,F))
    else
     some (.go (n,p,j))) y.toNat 0 (f.2.1,f.2.2,[])) fun(G,H,I)=>
 some ((Rel.mk e I),G,H)
theorem bH {B:Nat→Prop} {N:Nat} {ad:List UInt8} {Z a4 I e:Int} (r:Rel×Int×Int) (d:aY N ad Z a4 I e=some r) {h:Nat} {n:Value} {x:List Nat} (p:World) (hN:∀ c,B c→c<p.heap.size) (S0:Sep x B p p [bx h [n,xC Z,.int .u64 a4] 106]) (a3:Bo B p (Sl 1 cD) n ad) (ar:xO Z) (a5:xO I) (a0:xO e):Calls Tryz.prog 42 #[qC h,xC I,xC e] p (Gv (fun v w'=>∃ (ae:Value),v= .agg #[xC r.1.arity,ae]∧Sep x B p w' [rl 1 (qK 1 xI) 32 ae r.1.tuples,bx h [n,xC r.2.1,.int .u64 r.2.2] 106]∧xO r.1.arity∧xO r.2.1)):=by
 unfold aY at d
 refine xW (L:=[(0,qC h),(1,xC I),(2,xC e)]) func42 rfl rfl rfl (sc rfl (sc rfl (sc rfl sn))) (fun a F=>?_);have H:=S0;refine xV (oA zeroValue57 F rfl rfl H fun a w i H F=>vE (xA 1 F rfl fun a F=>kY underlying57 zeroValue57 (fun w=>by simp [sizeOf2,sizeOf55];rfl) F rfl rfl rfl rfl rfl (oc rfl on) rfl rfl fun a F=>oA zeroValue57 F rfl rfl H fun a w j H F=>eX (vs:=[xC e,qQ]) sizeOf57 F rfl rfl rfl H (oc rfl (oc rfl on)) rfl rfl (fun w H=>?_)));refine vE (xA 1 F rfl fun a F=>?_);obtain⟨A,c1,d⟩:=xB d;obtain⟨X1,au,av⟩:=Sep.lend (K:=[bx h [n,xC Z,.int .u64 a4] 106]) (L:=[bx j [xC e,qQ] 57,bx i [xC 0,qQ] 57]) (H.s [2,0,1] rfl rfl);refine oG F rfl call41 rfl (oO A c1 _ H.hN au (H.u a3) ar (show xO (5) by decide)) (fun a C w ⟨bn,S,i1,i2⟩ F=>?_);subst C;have H:Sep x B p w [bx h [n,xC A.2.1,.int .u64 A.2.2] 106,bx j [xC e,qQ] 57,bx i [xC 0,qQ] 57]:=av S;refine xA 1 F rfl fun a F=>vE (xA 2 F rfl fun a F=>?_);obtain⟨D,c2,d⟩:=xB d;refine oKI F rfl call72 rfl H (tQ D c2 _ aA a5 a0) fun a w H W F=>xA 1 F rfl fun a F=>xG (xF (xV (xA 1 F rfl fun a F=>xG ?_)));obtain⟨o1,d,aw⟩:=xT d;refine oR (fun a w=>∃ (s1 s2:Int) (s3:List (List Int)) (Q:Value),o1= .nx (s1,s2,s3)∧Sk a 41 [(0,qC h),(6,qC i),(7,qC j)]∧Sep x B p w [rl 1 (qK 1 xI) 32 Q s3,bx h [n,xC s1,.int .u64 s2] 106,bx j [xC e,Q] 57,bx i [xC 0,qQ] 57]∧xO s1) ?_ ?_
 ·
  refine oQ ?_;obtain⟨ax,ay,d⟩:=fT d;refine qY (fun g a w=>∃ (E:Nat) (T Y:Int) (t:List (List Int)) (f:Value),E+g=D.toNat∧dQ ax g E (T,Y,t)=some o1∧Sk a 41 [(10,xC (E:Int)),(0,qC h),(1,xC I),(2,xC e),(6,qC i),(7,qC j),(8,xC A.1),(9,xC D)]∧Sep x B p w [rl 1 (qK 1 xI) 32 f t,bx h [n,xC T,.int .u64 Y] 106,bx j [xC e,f] 57,bx i [xC 0,qQ] 57]∧xO T) D.toNat ?_ ?_
  ·
   exact⟨0,A.2.1,A.2.2,[],qQ,(Nat.zero_add _),d,F.su,(H.nl 1 (qK 1 xI) 32),i2⟩
  intro g1 a w ⟨E,T,Y,t,f,a1,d,F,H,i3⟩
  cases g1 with
  | zero=>
   replace d:=eD d;have l1:=iH a1;refine xF (xV (xA 3 F rfl fun a F=>xG (zS F rfl l1 (qV (qX ?_)))));refine qX (kF (xH ?_));exact⟨T,Y,t,f,(zL d),F.su,H,i3⟩
  | succ g1=>
   obtain⟨bp,d,af⟩:=eE d;rw[ay] at d;have l1:=fS a1;refine xF (xV (xA 3 F rfl fun a F=>xG (zQ F rfl l1 (xS (xH ?_)))));refine xF ?_;have j1:=yN a1 W;have m1:=lH a1 W;refine oQ (xF ?_);obtain⟨o2,d,az⟩:=xT d;refine oR (fun a w=>∃ (s7:Bool) (J O:Int),o2= .nx (s7,J,O)∧Sk a 41 [(0,qC h),(1,xC I),(2,xC e),(6,qC i),(7,qC j),(8,xC A.1),(9,xC D),(10,xC (E:Int)),(30,.bool s7)]∧Sep x B p w [rl 1 (qK 1 xI) 32 f t,bx h [n,xC J,.int .u64 O] 106,bx j [xC e,f] 57,bx i [xC 0,qQ] 57]∧xO J) ?_ ?_
   ·
    refine oM (xA 1 F rfl fun a F=>?_);obtain⟨M,c3,d⟩:=xB d;obtain⟨X2,K1,b0⟩:=Sep.lend (K:=[bx h [n,xC T,.int .u64 Y] 106]) (L:=[rl 1 (qK 1 xI) 32 f t,bx j [xC e,f] 57,bx i [xC 0,qQ] 57]) (H.s [1,0,2,3] rfl rfl);refine oG F rfl call41 rfl (oO M c3 _ H.hN K1 (H.u a3) i3 (show xO (5) by decide)) (fun a C w ⟨bq,S,i4,i5⟩ F=>?_);subst C;have H:Sep x B p w [bx h [n,xC M.2.1,.int .u64 M.2.2] 106,rl 1 (qK 1 xI) 32 f t,bx j [xC e,f] 57,bx i [xC 0,qQ] 57]:=b0 S;refine xA 3 F rfl fun a F=>?_
    rcases vJ (decide (M.1≤A.1)) with X | X
    ·
     replace d:=vY X d;have F:=F.eb 27 rfl X;refine xA 3 F rfl fun a F=>xG ?_;exact⟨true,M.2.1,M.2.2,(zL d),F.su,(H.s [1,0,2,3] rfl rfl),i5⟩
    replace d:=vX X d;have F:=F.eb 27 rfl X;refine xA 1 F rfl fun a F=>?_;obtain⟨U,c4,d⟩:=xB d;obtain⟨X3,K2,b1⟩:=Sep.lend (K:=[bx h [n,xC M.2.1,.int .u64 M.2.2] 106]) (L:=[rl 1 (qK 1 xI) 32 f t,bx j [xC e,f] 57,bx i [xC 0,qQ] 57]) H;refine oG F rfl call39 rfl (gU U c4 _ H.hN K2 (H.u a3) i5 (show xO (8) by decide)) (fun a C w ⟨br,S,i6⟩ F=>?_);subst C;have H:Sep x B p w [bx h [n,xC U.2.1,.int .u64 U.2.2] 106,rl 1 (qK 1 xI) 32 f t,bx j [xC e,f] 57,bx i [xC 0,qQ] 57]:=b1 S;refine xA 1 F rfl fun a F=>xG ?_;exact⟨U.1,U.2.1,U.2.2,(zL d),F.su,(H.s [1,0,2,3] rfl rfl),i6⟩
   rintro a w ⟨s7,J,O,rfl,F,H,i7⟩
   have d:=xY az;refine xH (qS F rfl (fun a6=>?_) (fun a6=>?_))
   ·
    replace d:=vY a6 d;obtain⟨V,c5,d⟩:=xB d;obtain⟨z6,c6,d⟩:=xB d;refine xD H (by kernel_rfl) fun w H=>dp (fun G=>∀ (v3:Value) (a:Act) (w:World),Sk a 41 [(0,qC h),(1,xC I),(2,xC e),(6,qC i),(7,qC j),(8,xC A.1),(9,xC D),(10,xC (E:Int)),(32,f),(37,v3)]→Sep x B p w [rl 1 (qK 1 xI) 32 v3 ([V]),rl 1 (qK 1 xI) 32 f t,bx h [n,xC J,.int .u64 O] 106,bx j [xC e,f] 57,bx i [xC 0,qQ] 57]→xO D→∀ P,P = #[true,true,true,true,true,true,true,false,false,false]→G 3 P a w) ?_ (fun H1=>?_)
    ·
     intro v3 a w F H i8 P a7;subst a7;refine xE H 7 rfl (by kernel_rfl) (oPL (sz:=1) (R:=(qK 1 xI)) (z:=(qQ)) (bytes:=24) underlying55 (by kernel_rfl) rfl rfl F rfl rfl rfl (H.s [1,0,2,3,4] rfl rfl) c6 fun a w v4 H F=>xG ⟨⟨_,H⟩,?_⟩);refine oV 8 rfl (by kernel_rfl) (xN F rfl (fun w l=>xU bJ F rfl rfl) fun a F=>xE H 9 rfl (by kernel_rfl) (oW sizeOf55 F rfl rfl rfl (H.s [2,0,1,3] rfl rfl) ((H.s [2,0,1,3] rfl rfl).l 1 rfl).one rfl rfl fun w H=>xG ⟨⟨_,H⟩,?_⟩));refine vP (by kernel_rfl) (vK (xH (oM (xA 1 F rfl fun a F=>zG F rfl rfl rfl m1 fun a F=>xA 1 F rfl fun a F=>xG ?_))));replace d:=zM d af;exact⟨_,Nat.lt_succ_self _,E+1,J,O,z6,v4,(by omega),d,F.su,(H.s [1,2,0,3] rfl rfl),i7⟩
    refine dp (fun G=>∀ (v5:Value) (a:Act) (w:World),Sk a 41 [(0,qC h),(1,xC I),(2,xC e),(6,qC i),(7,qC j),(8,xC A.1),(9,xC D),(10,xC (E:Int)),(32,f),(36,v5)]→Sep x B p w [rl 1 xI 2 v5 V,rl 1 (qK 1 xI) 32 f t,bx h [n,xC J,.int .u64 O] 106,bx j [xC e,f] 57,bx i [xC 0,qQ] 57]→xO D→∀ P,P = #[true,true,true,true,true,true,false,false,false,false]→G 4 P a w) ?_ (fun H2=>?_)
    ·
     intro v5 a w F H i9 P a7;subst a7;refine xE H 6 rfl (by kernel_rfl) ?_;have H:=H.os;refine dY (R:=(qK 1 xI)) (y:=V) underlying55 sizeOf32 zeroValue32 rfl rfl F rfl rfl H El.sl fun a w v6 H F=>xG ⟨⟨_,H⟩,?_⟩;exact H1 v6 _ _ (F.su) H i9 _ (by kernel_rfl)
    refine oV 0 rfl (by kernel_rfl) (xN F rfl (fun w l=>xU bJ F rfl rfl) fun a F=>qP 2 rfl (by kernel_rfl) (xN F rfl (fun w l=>xL F rfl) fun a F=>qP 3 rfl (by kernel_rfl) (xN F rfl (fun w l=>xL F rfl) fun a F=>qP 4 rfl (by kernel_rfl) (xN F rfl (fun w l=>xL F rfl) fun a F=>kH [1,5] (by kernel_rfl) (by simp) ⟨⟨_,rfl,?_⟩,⟨_,rfl,?_⟩,trivial⟩))))
    ·
     refine kC H (oB isAgg55 F rfl rfl (H.b 2 rfl) rfl fun a F=>xG ⟨⟨_,H⟩,?_⟩);refine xE H 5 rfl (by kernel_rfl) (oG F rfl call73 rfl (lU V c5 _ aA a5 a0 j1) (fun a C w ⟨v7,bt,S⟩ F=>?_));subst C;have H:=H.r1 S n0;refine xG ⟨⟨_,H⟩,?_⟩;exact H2 v7 _ _ (F.su) H W _ (by kernel_rfl)
    refine kC H (oG F rfl call73 rfl (lU V c5 _ aA a5 a0 j1) (fun a C w ⟨v8,bu,S⟩ F=>?_));subst C;have H:=H.r1 S n0;refine xG ⟨⟨_,H⟩,?_⟩;refine kH [1,6] (by kernel_rfl) (by simp) ⟨⟨_,rfl,?_⟩,⟨_,rfl,?_⟩,trivial⟩
    ·
     refine kC H (oB isAgg55 F rfl rfl (H.b 3 rfl) rfl fun a F=>xG ⟨⟨_,H⟩,?_⟩);exact H2 v8 _ _ (F.su) H W _ (by kernel_rfl)
    refine kC H ?_;have H:=H.os;refine dY (R:=(qK 1 xI)) (y:=V) underlying55 sizeOf32 zeroValue32 rfl rfl F rfl rfl H El.sl fun a w v9 H F=>xG ⟨⟨_,H⟩,?_⟩;refine xE H 1 rfl (by kernel_rfl) (oB isAgg55 F rfl rfl (H.b 3 rfl) rfl fun a F=>xG ⟨⟨_,H⟩,?_⟩);exact H1 v9 _ _ (F.su) H W _ (by kernel_rfl)
   replace d:=vX a6 d;refine xS (vK (xH (oM (xA 1 F rfl fun a F=>zG F rfl rfl rfl m1 fun a F=>xA 1 F rfl fun a F=>xG ?_))));replace d:=zM d af;exact⟨_,Nat.lt_succ_self _,E+1,J,O,t,f,(by omega),d,F.su,H,i7⟩
 rintro a w ⟨s1,s2,s3,Q,rfl,F,H,b2⟩
 have d:=xY aw;refine xH (xV (fJ isAgg57 sizeOf57 F rfl rfl (H.b 2 rfl) rfl rfl fun a F=>eX (vs:=[xC e,Q]) sizeOf57 F rfl rfl rfl (H.s [3,0,1,2] rfl rfl) (oc rfl (oc ((H.s [3,0,1,2] rfl rfl).l 1 rfl).one on)) rfl rfl fun w H=>xG (xP (xR F rfl (kX (arr:=#[xC e,Q]) F isAgg57 sizeOf57 rfl (H.b 0 rfl)) ?_))));obtain rfl:=oj d;exact⟨_,rfl,Q,rfl,(H.s [1,2] rfl rfl),a0,b2⟩
def aC (N:Nat) (d:List UInt8) (t x i:Int):Option (Template×Int×Int):=
 xZ (oH d t x 4) fun e=>
 zW (σ:=Int×Int×Int×(List Rel)) (
  fE (σ:=Int×Int×Int×(List Rel)) (ρ:=Template×Int×Int) (fun(s:Int×Int×Int×(List Rel))=>
    match s with
    | (f,j,n,p)=>
    if (decide (0<f)) then
     xZ (zB d j n ([1,2,2,2,3])) fun h=>
     xZ (aY N d h.2.1 h.2.2 i h.1) fun c=>
     xZ (ap p ([(Rel.mk c.1.arity c.1.tuples)])) fun y=>
     xZ (ck (f - 1)) fun A=>
     some (.go (A,c.2.1,c.2.2,y))
    else
     some (.brk (f,j,n,p))) N (e.1,e.2.1,e.2.2,[])) fun(E,B,C,D)=>
 some ((Template.mk i D),B,C)
theorem gC {B:Nat→Prop} {N:Nat} {ae:List UInt8} {a0 a4 i:Int} (r:Template×Int×Int) (d:aC N ae a0 a4 i=some r) {j:Nat} {n:Value} {V:List Nat} (I:World) (hN:∀ c,B c→c<I.heap.size) (S0:Sep V B I I [bx j [n,xC a0,.int .u64 a4] 106]) (J:Bo B I (Sl 1 cD) n ae) (b1:xO a0) (U:xO i):Calls Tryz.prog 67 #[qC j,xC i] I (Gv (fun v w'=>∃ (af:Value),v= .agg #[xC r.1.size,af]∧Sep V B I w' [rl 2 qG 57 af r.1.rels,bx j [n,xC r.2.1,.int .u64 r.2.2] 106]∧xO r.1.size∧xO r.2.1)):=by
 unfold aC at d
 refine xW (L:=[(0,qC j),(1,xC i)]) func67 rfl rfl rfl (sc rfl (sc rfl sn)) (fun a F=>?_);have H:=S0;refine xV (oA zeroValue26 F rfl rfl H fun a w p H F=>vE (xA 1 F rfl fun a F=>kY underlying26 zeroValue26 (fun w=>by simp [sizeOf2,sizeOf24];rfl) F rfl rfl rfl rfl rfl (oc rfl on) rfl rfl fun a F=>oA zeroValue26 F rfl rfl H fun a w t H F=>eX (vs:=[xC i,qQ]) sizeOf26 F rfl rfl rfl H (oc rfl (oc rfl on)) rfl rfl (fun w H=>?_)));refine xG (xF (xV (xA 1 F rfl fun a F=>?_)));obtain⟨Q,c1,d⟩:=xB d;obtain⟨X1,b2,b3⟩:=Sep.lend (K:=[bx j [n,xC a0,.int .u64 a4] 106]) (L:=[bx t [xC i,qQ] 26,bx p [xC 0,qQ] 26]) (H.s [2,0,1] rfl rfl);refine oG F rfl call41 rfl (oO Q c1 _ H.hN b2 (H.u J) b1 (show xO (4) by decide)) (fun a D w ⟨cu,S,i1,i2⟩ F=>?_);subst D;have H:Sep V B I w [bx j [n,xC Q.2.1,.int .u64 Q.2.2] 106,bx t [xC i,qQ] 26,bx p [xC 0,qQ] 26]:=b3 S;refine xA 1 F rfl fun a F=>xG ?_;obtain⟨o1,d,b4⟩:=xT d;refine oR (fun a w=>∃ (s1 s2 s3:Int) (s4:List Rel) (T:Value),o1= .nx (s1,s2,s3,s4)∧Sk a 27 [(0,qC j),(4,qC p),(5,qC t)]∧Sep V B I w [rl 2 qG 57 T s4,bx j [n,xC s2,.int .u64 s3] 106,bx t [xC i,T] 26,bx p [xC 0,qQ] 26]∧xO s1∧xO s2) ?_ ?_
 ·
  refine oQ ?_;obtain⟨b5,b6,d⟩:=dE d;refine qY (fun g a w=>∃ (W M O:Int) (A:List Rel) (h:Value),fE b5 g (W,M,O,A)=some o1∧Sk a 27 [(0,qC j),(1,xC i),(4,qC p),(5,qC t),(6,xC W)]∧Sep V B I w [rl 2 qG 57 h A,bx j [n,xC M,.int .u64 O] 106,bx t [xC i,h] 26,bx p [xC 0,qQ] 26]∧xO W∧xO M) N ?_ ?_
  ·
   exact⟨Q.1,Q.2.1,Q.2.2,[],qQ,d,F.su,(H.nl 2 qG 57),i1,i2⟩
  intro g1 a w ⟨W,M,O,A,h,d,F,H,i3,i4⟩;obtain⟨cx,X,cy,d,P⟩:=aQ d;rw[b6] at d;refine xF (xV (xA 2 F rfl fun a F=>xG (qS F rfl (fun a5=>?_) (fun a5=>?_))))
  ·
   replace d:=vY a5 d;refine xS (xH (xF (oQ ?_)));obtain⟨C,c2,d⟩:=xB d;obtain⟨e,c3,d⟩:=xB d;obtain⟨Y,Z,d⟩:=xB d;refine xD H (by kernel_rfl) fun w H=>oV 0 rfl (by kernel_rfl) (xN F rfl (fun w l=>xU kW F rfl rfl) fun a F=>qP 2 rfl (by kernel_rfl) (xN F rfl (fun w l=>xL F rfl) fun a F=>qP 3 rfl (by kernel_rfl) (xN F rfl (fun w l=>xL F rfl) fun a F=>qP 4 rfl (by kernel_rfl) (xN F rfl (fun w l=>xL F rfl) fun a F=>kH [1,5] (by kernel_rfl) (by simp) ⟨⟨_,rfl,?_⟩,⟨_,rfl,?_⟩,trivial⟩))))
   ·
    refine kC H (oB isAgg24 F rfl rfl (H.b 2 rfl) rfl fun a F=>xG ⟨⟨_,H⟩,?_⟩);refine xE H 5 rfl (by kernel_rfl) (oRI (xs:=[.const (xC 1),.const (xC 2),.const (xC 2),.const (xC 2),.const (xC 3)]) (l:=[1,2,2,2,3]) underlying32 sizeOf2 zeroValue2 rfl F rfl rfl rfl rfl rfl rfl (by simp only[List.forall_mem_cons,List.not_mem_nil,false_implies,implies_true,and_true];exact⟨(show xO (1) by decide),(show xO (2) by decide),(show xO (2) by decide),(show xO (2) by decide),(show xO (3) by decide)⟩) H fun a w v3 H F=>xG ⟨⟨_,H⟩,?_⟩);refine xE H 6 rfl (by kernel_rfl) ?_;obtain⟨w1,rfl⟩:∃ x,x=w:=⟨_,rfl⟩;have cz:=H.sm;obtain⟨X2,N1,g2,e1,H,E,d0⟩:=H.fza;have h1:=g2.ld;obtain⟨X3,K1,b7⟩:=Sep.lend (K:=[bx j [n,xC M,.int .u64 O] 106]) (L:=[rl 2 qG 57 h A,bx t [xC i,h] 26,bx p [xC 0,qQ] 26]) (H.s [1,0,2,3] rfl rfl);refine oG F rfl call68 rfl (qO C c2 _ H.hN K1 (H.u (e1 J)) i4 (H.u h1)) (fun a D w ⟨d1,S,i5,i6⟩ F=>?_);subst D;have H:Sep X2 N1 w1 w [bx j [n,xC C.2.1,.int .u64 C.2.2] 106,rl 2 qG 57 h A,bx t [xC i,h] 26,bx p [xC 0,qQ] 26]:=b7 S;refine xG ⟨⟨_,(E.1 H (Ns.all ⟨n0,⟨n0,⟨n0,⟨n0,trivial⟩⟩⟩⟩))⟩,?_⟩;refine xE (E.1 H (Ns.all ⟨n0,⟨n0,⟨n0,⟨n0,trivial⟩⟩⟩⟩)) 7 rfl (by kernel_rfl) ?_;obtain⟨X4,K2,b8⟩:=Sep.lend (K:=[bx j [n,xC C.2.1,.int .u64 C.2.2] 106]) (L:=[rl 2 qG 57 h A,bx t [xC i,h] 26,bx p [xC 0,qQ] 26]) H;refine oG F rfl call42 rfl (bH e c3 _ H.hN K2 (H.u (e1 J)) i6 U i5) (fun a D w ⟨v4,d2,S,i7,i8⟩ F=>?_);subst D;have H:Sep X2 N1 w1 w [rl 1 (qK 1 xI) 32 v4 e.1.tuples,bx j [n,xC e.2.1,.int .u64 e.2.2] 106,rl 2 qG 57 h A,bx t [xC i,h] 26,bx p [xC 0,qQ] 26]:=b8 S;refine xG ⟨⟨_,(E.1 H (Ns.all ⟨n0,⟨n0,⟨n0,⟨n0,⟨n0,trivial⟩⟩⟩⟩⟩))⟩,?_⟩;refine xE (E.1 H (Ns.all ⟨n0,⟨n0,⟨n0,⟨n0,⟨n0,trivial⟩⟩⟩⟩⟩)) 8 rfl (by kernel_rfl) ?_;have H:=(qG.w i7 H);refine dY (R:=qG) (y:=(Rel.mk e.1.arity e.1.tuples)) underlying24 sizeOf57 zeroValue57 rfl rfl F rfl rfl H El.agg fun a w v5 H F=>xG ⟨⟨_,(E.1 H (Ns.all ⟨n0,⟨n0,⟨n0,⟨n0,⟨n0,trivial⟩⟩⟩⟩⟩))⟩,?_⟩;refine xE (E.1 H (Ns.all ⟨n0,⟨n0,⟨n0,⟨n0,⟨n0,trivial⟩⟩⟩⟩⟩)) 9 rfl (by kernel_rfl) (oPL (sz:=2) (R:=qG) (z:=(.agg #[xC 0,qQ])) (bytes:=32) underlying24 (by kernel_rfl) rfl rfl F rfl rfl rfl (H.s [2,0,1,3,4] rfl rfl) Z fun a w v6 H F=>xG ⟨⟨_,(E.1 H (Ns.all ⟨n0,⟨n0,⟨n0,⟨n0,trivial⟩⟩⟩⟩))⟩,?_⟩);refine oV 10 rfl (by kernel_rfl) (xN F rfl (fun w l=>xU kW F rfl rfl) fun a F=>xE (E.1 H (Ns.all ⟨n0,⟨n0,⟨n0,⟨n0,trivial⟩⟩⟩⟩)) 11 rfl (by kernel_rfl) (oW sizeOf24 F rfl rfl rfl (H.s [2,0,1,3] rfl rfl) ((H.s [2,0,1,3] rfl rfl).l 1 rfl).one rfl rfl fun w H=>xG ⟨⟨_,(E.1 H (Ns.all ⟨n0,⟨n0,⟨n0,⟨n0,trivial⟩⟩⟩⟩))⟩,?_⟩));refine vP (by kernel_rfl) (vK (xH (oM (xA 1 F rfl fun a F=>?_))));obtain⟨z5,c5,d⟩:=xB d;refine fL F rfl rfl rfl c5 fun a F=>xA 1 F rfl fun a F=>xG ?_;replace d:=zM d P;exact⟨X,(by omega),z5,e.2.1,e.2.2,Y,v6,d,F.su,((E.1 H (Ns.all ⟨n0,⟨n0,⟨n0,⟨n0,trivial⟩⟩⟩⟩)).s [2,3,1,4] rfl rfl),(kQ c5),i8⟩
   refine kC H (oRI (xs:=[.const (xC 1),.const (xC 2),.const (xC 2),.const (xC 2),.const (xC 3)]) (l:=[1,2,2,2,3]) underlying32 sizeOf2 zeroValue2 rfl F rfl rfl rfl rfl rfl rfl (by simp only[List.forall_mem_cons,List.not_mem_nil,false_implies,implies_true,and_true];exact⟨(show xO (1) by decide),(show xO (2) by decide),(show xO (2) by decide),(show xO (2) by decide),(show xO (3) by decide)⟩) H fun a w v7 H F=>xG ⟨⟨_,H⟩,?_⟩);refine kH [1,6] (by kernel_rfl) (by simp) ⟨⟨_,rfl,?_⟩,⟨_,rfl,?_⟩,trivial⟩
   ·
    refine kC H (oB isAgg24 F rfl rfl (H.b 3 rfl) rfl fun a F=>xG ⟨⟨_,H⟩,?_⟩);refine xE H 6 rfl (by kernel_rfl) ?_;obtain⟨w2,rfl⟩:∃ x,x=w:=⟨_,rfl⟩;have d3:=H.sm;obtain⟨X5,N2,g3,e2,H,G,d4⟩:=H.fza;have h2:=g3.ld;obtain⟨X6,K3,b9⟩:=Sep.lend (K:=[bx j [n,xC M,.int .u64 O] 106]) (L:=[rl 2 qG 57 h A,bx t [xC i,h] 26,bx p [xC 0,qQ] 26]) (H.s [1,0,2,3] rfl rfl);refine oG F rfl call68 rfl (qO C c2 _ H.hN K3 (H.u (e2 J)) i4 (H.u h2)) (fun a D w ⟨d5,S,i9,ba⟩ F=>?_);subst D;have H:Sep X5 N2 w2 w [bx j [n,xC C.2.1,.int .u64 C.2.2] 106,rl 2 qG 57 h A,bx t [xC i,h] 26,bx p [xC 0,qQ] 26]:=b9 S;refine xG ⟨⟨_,(G.1 H (Ns.all ⟨n0,⟨n0,⟨n0,⟨n0,trivial⟩⟩⟩⟩))⟩,?_⟩;refine xE (G.1 H (Ns.all ⟨n0,⟨n0,⟨n0,⟨n0,trivial⟩⟩⟩⟩)) 7 rfl (by kernel_rfl) ?_;obtain⟨X7,K4,bb⟩:=Sep.lend (K:=[bx j [n,xC C.2.1,.int .u64 C.2.2] 106]) (L:=[rl 2 qG 57 h A,bx t [xC i,h] 26,bx p [xC 0,qQ] 26]) H;refine oG F rfl call42 rfl (bH e c3 _ H.hN K4 (H.u (e2 J)) ba U i9) (fun a D w ⟨v8,d6,S,bc,be⟩ F=>?_);subst D;have H:Sep X5 N2 w2 w [rl 1 (qK 1 xI) 32 v8 e.1.tuples,bx j [n,xC e.2.1,.int .u64 e.2.2] 106,rl 2 qG 57 h A,bx t [xC i,h] 26,bx p [xC 0,qQ] 26]:=bb S;refine xG ⟨⟨_,(G.1 H (Ns.all ⟨n0,⟨n0,⟨n0,⟨n0,⟨n0,trivial⟩⟩⟩⟩⟩))⟩,?_⟩;refine xE (G.1 H (Ns.all ⟨n0,⟨n0,⟨n0,⟨n0,⟨n0,trivial⟩⟩⟩⟩⟩)) 8 rfl (by kernel_rfl) ?_;have H:=(qG.w bc H);refine dY (R:=qG) (y:=(Rel.mk e.1.arity e.1.tuples)) underlying24 sizeOf57 zeroValue57 rfl rfl F rfl rfl H El.agg fun a w v9 H F=>xG ⟨⟨_,(G.1 H (Ns.all ⟨n0,⟨n0,⟨n0,⟨n0,⟨n0,trivial⟩⟩⟩⟩⟩))⟩,?_⟩;refine xE (G.1 H (Ns.all ⟨n0,⟨n0,⟨n0,⟨n0,⟨n0,trivial⟩⟩⟩⟩⟩)) 9 rfl (by kernel_rfl) (oPL (sz:=2) (R:=qG) (z:=(.agg #[xC 0,qQ])) (bytes:=32) underlying24 (by kernel_rfl) rfl rfl F rfl rfl rfl (H.s [2,0,1,3,4] rfl rfl) Z fun a w bf H F=>xG ⟨⟨_,(G.1 H (Ns.all ⟨n0,⟨n0,⟨n0,⟨n0,trivial⟩⟩⟩⟩))⟩,?_⟩);refine oV 10 rfl (by kernel_rfl) (xN F rfl (fun w l=>xU kW F rfl rfl) fun a F=>xE (G.1 H (Ns.all ⟨n0,⟨n0,⟨n0,⟨n0,trivial⟩⟩⟩⟩)) 11 rfl (by kernel_rfl) (oW sizeOf24 F rfl rfl rfl (H.s [2,0,1,3] rfl rfl) ((H.s [2,0,1,3] rfl rfl).l 1 rfl).one rfl rfl fun w H=>xG ⟨⟨_,(G.1 H (Ns.all ⟨n0,⟨n0,⟨n0,⟨n0,trivial⟩⟩⟩⟩))⟩,?_⟩));refine vP (by kernel_rfl) (vK (xH (oM (xA 1 F rfl fun a F=>?_))));obtain⟨z6,c6,d⟩:=xB d;refine fL F rfl rfl rfl c6 fun a F=>xA 1 F rfl fun a F=>xG ?_;replace d:=zM d P;exact⟨X,(by omega),z6,e.2.1,e.2.2,Y,bf,d,F.su,((G.1 H (Ns.all ⟨n0,⟨n0,⟨n0,⟨n0,trivial⟩⟩⟩⟩)).s [2,3,1,4] rfl rfl),(kQ c6),be⟩
   refine kC H ?_;obtain⟨w3,rfl⟩:∃ x,x=w:=⟨_,rfl⟩;have d7:=H.sm;obtain⟨X8,N3,g4,e3,H,f,d8⟩:=H.fza;have h3:=g4.ld;obtain⟨X9,K5,bg⟩:=Sep.lend (K:=[bx j [n,xC M,.int .u64 O] 106]) (L:=[rl 2 qG 57 h A,bx t [xC i,h] 26,bx p [xC 0,qQ] 26]) (H.s [1,0,2,3] rfl rfl);refine oG F rfl call68 rfl (qO C c2 _ H.hN K5 (H.u (e3 J)) i4 (H.u h3)) (fun a D w ⟨d9,S,ag,ah⟩ F=>?_);subst D;have H:Sep X8 N3 w3 w [bx j [n,xC C.2.1,.int .u64 C.2.2] 106,rl 2 qG 57 h A,bx t [xC i,h] 26,bx p [xC 0,qQ] 26]:=bg S;refine xG ⟨⟨_,(f.1 H (Ns.all ⟨n0,⟨n0,⟨n0,⟨n0,trivial⟩⟩⟩⟩))⟩,?_⟩;refine kH [1,7] (by kernel_rfl) (by simp) ⟨⟨_,rfl,?_⟩,⟨_,rfl,?_⟩,trivial⟩
   ·
    refine kC (f.1 H (Ns.all ⟨n0,⟨n0,⟨n0,⟨n0,trivial⟩⟩⟩⟩)) (oB isAgg24 F rfl rfl (H.b 2 rfl) rfl fun a F=>xG ⟨⟨_,(f.1 H (Ns.all ⟨n0,⟨n0,⟨n0,⟨n0,trivial⟩⟩⟩⟩))⟩,?_⟩);refine xE (f.1 H (Ns.all ⟨n0,⟨n0,⟨n0,⟨n0,trivial⟩⟩⟩⟩)) 7 rfl (by kernel_rfl) ?_;obtain⟨da,K6,bh⟩:=Sep.lend (K:=[bx j [n,xC C.2.1,.int .u64 C.2.2] 106]) (L:=[rl 2 qG 57 h A,bx t [xC i,h] 26,bx p [xC 0,qQ] 26]) H;refine oG F rfl call42 rfl (bH e c3 _ H.hN K6 (H.u (e3 J)) ah U ag) (fun a D w ⟨bi,db,S,bj,bm⟩ F=>?_);subst D;have H:Sep X8 N3 w3 w [rl 1 (qK 1 xI) 32 bi e.1.tuples,bx j [n,xC e.2.1,.int .u64 e.2.2] 106,rl 2 qG 57 h A,bx t [xC i,h] 26,bx p [xC 0,qQ] 26]:=bh S;refine xG ⟨⟨_,(f.1 H (Ns.all ⟨n0,⟨n0,⟨n0,⟨n0,⟨n0,trivial⟩⟩⟩⟩⟩))⟩,?_⟩;refine xE (f.1 H (Ns.all ⟨n0,⟨n0,⟨n0,⟨n0,⟨n0,trivial⟩⟩⟩⟩⟩)) 8 rfl (by kernel_rfl) ?_;have H:=(qG.w bj H);refine dY (R:=qG) (y:=(Rel.mk e.1.arity e.1.tuples)) underlying24 sizeOf57 zeroValue57 rfl rfl F rfl rfl H El.agg fun a w dc H F=>xG ⟨⟨_,(f.1 H (Ns.all ⟨n0,⟨n0,⟨n0,⟨n0,⟨n0,trivial⟩⟩⟩⟩⟩))⟩,?_⟩;refine xE (f.1 H (Ns.all ⟨n0,⟨n0,⟨n0,⟨n0,⟨n0,trivial⟩⟩⟩⟩⟩)) 9 rfl (by kernel_rfl) (oPL (sz:=2) (R:=qG) (z:=(.agg #[xC 0,qQ])) (bytes:=32) underlying24 (by kernel_rfl) rfl rfl F rfl rfl rfl (H.s [2,0,1,3,4] rfl rfl) Z fun a w bn H F=>xG ⟨⟨_,(f.1 H (Ns.all ⟨n0,⟨n0,⟨n0,⟨n0,trivial⟩⟩⟩⟩))⟩,?_⟩);refine oV 10 rfl (by kernel_rfl) (xN F rfl (fun w l=>xU kW F rfl rfl) fun a F=>xE (f.1 H (Ns.all ⟨n0,⟨n0,⟨n0,⟨n0,trivial⟩⟩⟩⟩)) 11 rfl (by kernel_rfl) (oW sizeOf24 F rfl rfl rfl (H.s [2,0,1,3] rfl rfl) ((H.s [2,0,1,3] rfl rfl).l 1 rfl).one rfl rfl fun w H=>xG ⟨⟨_,(f.1 H (Ns.all ⟨n0,⟨n0,⟨n0,⟨n0,trivial⟩⟩⟩⟩))⟩,?_⟩));refine vP (by kernel_rfl) (vK (xH (oM (xA 1 F rfl fun a F=>?_))));obtain⟨z7,c7,d⟩:=xB d;refine fL F rfl rfl rfl c7 fun a F=>xA 1 F rfl fun a F=>xG ?_;replace d:=zM d P;exact⟨X,(by omega),z7,e.2.1,e.2.2,Y,bn,d,F.su,((f.1 H (Ns.all ⟨n0,⟨n0,⟨n0,⟨n0,trivial⟩⟩⟩⟩)).s [2,3,1,4] rfl rfl),(kQ c7),bm⟩
   refine kC (f.1 H (Ns.all ⟨n0,⟨n0,⟨n0,⟨n0,trivial⟩⟩⟩⟩)) ?_;obtain⟨dd,K7,bp⟩:=Sep.lend (K:=[bx j [n,xC C.2.1,.int .u64 C.2.2] 106]) (L:=[rl 2 qG 57 h A,bx t [xC i,h] 26,bx p [xC 0,qQ] 26]) H;refine oG F rfl call42 rfl (bH e c3 _ H.hN K7 (H.u (e3 J)) ah U ag) (fun a D w ⟨bq,de,S,ai,aj⟩ F=>?_);subst D;have H:Sep X8 N3 w3 w [rl 1 (qK 1 xI) 32 bq e.1.tuples,bx j [n,xC e.2.1,.int .u64 e.2.2] 106,rl 2 qG 57 h A,bx t [xC i,h] 26,bx p [xC 0,qQ] 26]:=bp S;refine xG ⟨⟨_,(f.1 H (Ns.all ⟨n0,⟨n0,⟨n0,⟨n0,⟨n0,trivial⟩⟩⟩⟩⟩))⟩,?_⟩;refine kH [1,8] (by kernel_rfl) (by simp) ⟨⟨_,rfl,?_⟩,⟨_,rfl,?_⟩,trivial⟩
   ·
    refine kC (f.1 H (Ns.all ⟨n0,⟨n0,⟨n0,⟨n0,⟨n0,trivial⟩⟩⟩⟩⟩)) (oB isAgg24 F rfl rfl (H.b 3 rfl) rfl fun a F=>xG ⟨⟨_,(f.1 H (Ns.all ⟨n0,⟨n0,⟨n0,⟨n0,⟨n0,trivial⟩⟩⟩⟩⟩))⟩,?_⟩);refine xE (f.1 H (Ns.all ⟨n0,⟨n0,⟨n0,⟨n0,⟨n0,trivial⟩⟩⟩⟩⟩)) 8 rfl (by kernel_rfl) ?_;have H:=(qG.w ai H);refine dY (R:=qG) (y:=(Rel.mk e.1.arity e.1.tuples)) underlying24 sizeOf57 zeroValue57 rfl rfl F rfl rfl H El.agg fun a w df H F=>xG ⟨⟨_,(f.1 H (Ns.all ⟨n0,⟨n0,⟨n0,⟨n0,⟨n0,trivial⟩⟩⟩⟩⟩))⟩,?_⟩;refine xE (f.1 H (Ns.all ⟨n0,⟨n0,⟨n0,⟨n0,⟨n0,trivial⟩⟩⟩⟩⟩)) 9 rfl (by kernel_rfl) (oPL (sz:=2) (R:=qG) (z:=(.agg #[xC 0,qQ])) (bytes:=32) underlying24 (by kernel_rfl) rfl rfl F rfl rfl rfl (H.s [2,0,1,3,4] rfl rfl) Z fun a w br H F=>xG ⟨⟨_,(f.1 H (Ns.all ⟨n0,⟨n0,⟨n0,⟨n0,trivial⟩⟩⟩⟩))⟩,?_⟩);refine oV 10 rfl (by kernel_rfl) (xN F rfl (fun w l=>xU kW F rfl rfl) fun a F=>xE (f.1 H (Ns.all ⟨n0,⟨n0,⟨n0,⟨n0,trivial⟩⟩⟩⟩)) 11 rfl (by kernel_rfl) (oW sizeOf24 F rfl rfl rfl (H.s [2,0,1,3] rfl rfl) ((H.s [2,0,1,3] rfl rfl).l 1 rfl).one rfl rfl fun w H=>xG ⟨⟨_,(f.1 H (Ns.all ⟨n0,⟨n0,⟨n0,⟨n0,trivial⟩⟩⟩⟩))⟩,?_⟩));refine vP (by kernel_rfl) (vK (xH (oM (xA 1 F rfl fun a F=>?_))));obtain⟨z8,c8,d⟩:=xB d;refine fL F rfl rfl rfl c8 fun a F=>xA 1 F rfl fun a F=>xG ?_;replace d:=zM d P;exact⟨X,(by omega),z8,e.2.1,e.2.2,Y,br,d,F.su,((f.1 H (Ns.all ⟨n0,⟨n0,⟨n0,⟨n0,trivial⟩⟩⟩⟩)).s [2,3,1,4] rfl rfl),(kQ c8),aj⟩
   refine kC (f.1 H (Ns.all ⟨n0,⟨n0,⟨n0,⟨n0,⟨n0,trivial⟩⟩⟩⟩⟩)) ?_;have H:=(qG.w ai H);refine dY (R:=qG) (y:=(Rel.mk e.1.arity e.1.tuples)) underlying24 sizeOf57 zeroValue57 rfl rfl F rfl rfl H El.agg fun a w dg H F=>xG ⟨⟨_,(f.1 H (Ns.all ⟨n0,⟨n0,⟨n0,⟨n0,⟨n0,trivial⟩⟩⟩⟩⟩))⟩,?_⟩;refine xE (f.1 H (Ns.all ⟨n0,⟨n0,⟨n0,⟨n0,⟨n0,trivial⟩⟩⟩⟩⟩)) 1 rfl (by kernel_rfl) (oB isAgg24 F rfl rfl (H.b 3 rfl) rfl fun a F=>xG ⟨⟨_,(f.1 H (Ns.all ⟨n0,⟨n0,⟨n0,⟨n0,⟨n0,trivial⟩⟩⟩⟩⟩))⟩,?_⟩);refine xE (f.1 H (Ns.all ⟨n0,⟨n0,⟨n0,⟨n0,⟨n0,trivial⟩⟩⟩⟩⟩)) 9 rfl (by kernel_rfl) (oPL (sz:=2) (R:=qG) (z:=(.agg #[xC 0,qQ])) (bytes:=32) underlying24 (by kernel_rfl) rfl rfl F rfl rfl rfl (H.s [2,0,1,3,4] rfl rfl) Z fun a w bt H F=>xG ⟨⟨_,(f.1 H (Ns.all ⟨n0,⟨n0,⟨n0,⟨n0,trivial⟩⟩⟩⟩))⟩,?_⟩);refine oV 10 rfl (by kernel_rfl) (xN F rfl (fun w l=>xU kW F rfl rfl) fun a F=>xE (f.1 H (Ns.all ⟨n0,⟨n0,⟨n0,⟨n0,trivial⟩⟩⟩⟩)) 11 rfl (by kernel_rfl) (oW sizeOf24 F rfl rfl rfl (H.s [2,0,1,3] rfl rfl) ((H.s [2,0,1,3] rfl rfl).l 1 rfl).one rfl rfl fun w H=>xG ⟨⟨_,(f.1 H (Ns.all ⟨n0,⟨n0,⟨n0,⟨n0,trivial⟩⟩⟩⟩))⟩,?_⟩));refine vP (by kernel_rfl) (vK (xH (oM (xA 1 F rfl fun a F=>?_))));obtain⟨z9,c9,d⟩:=xB d;refine fL F rfl rfl rfl c9 fun a F=>xA 1 F rfl fun a F=>xG ?_;replace d:=zM d P;exact⟨X,(by omega),z9,e.2.1,e.2.2,Y,bt,d,F.su,((f.1 H (Ns.all ⟨n0,⟨n0,⟨n0,⟨n0,trivial⟩⟩⟩⟩)).s [2,3,1,4] rfl rfl),(kQ c9),aj⟩
  replace d:=vX a5 d;refine qV (qX (qX ?_));replace d:=jO d P;refine kF (xH ?_);exact⟨W,M,O,A,h,(zL d),F.su,H,i3,i4⟩
 rintro a w ⟨s1,s2,s3,s4,T,rfl,F,H,dh,bu⟩
 have d:=xY b4;refine xH (xV (fJ isAgg26 sizeOf26 F rfl rfl (H.b 2 rfl) rfl rfl fun a F=>eX (vs:=[xC i,T]) sizeOf26 F rfl rfl rfl (H.s [3,0,1,2] rfl rfl) (oc rfl (oc ((H.s [3,0,1,2] rfl rfl).l 1 rfl).one on)) rfl rfl fun w H=>xG (xP (xR F rfl (kX (arr:=#[xC i,T]) F isAgg26 sizeOf26 rfl (H.b 0 rfl)) ?_))));obtain rfl:=oj d;exact⟨_,rfl,T,rfl,(H.s [1,2] rfl rfl),U,bu⟩
def fN (N:Nat) (c:List UInt8) (D E:Int) (e:Template) (M:Int):Option (Instance×Int×Int):=
 xZ (oH c D E M) fun f=>
 xZ (ck (1+f.1)) fun p=>
 xZ (oH c f.2.1 f.2.2 7) fun h=>
 zW (σ:=Int×Int×Int×(List Con)) (
  fE (σ:=Int×Int×Int×(List Con)) (ρ:=Instance×Int×Int) (fun(s:Int×Int×Int×(List Con))=>
    match s with
    | (i,t,x,y)=>
    zW (σ:=Bool) (
     if (decide (0<i)) then  some (.nx (decide (0<(e.rels.length:Int)))) else  some (.nx false)) fun O=>
    if O then
     xZ (oH c t x (e.rels.length:Int)) fun d=>
     xZ (ix e.rels d.1) fun P=>
     zW (σ:=Int×Int×Int×(List Int)) (
      fE (σ:=Int×Int×Int×(List Int)) (ρ:=(Ctl (Int×Int×Int×(List Con)) (Instance×Int×Int))) (fun(s:Int×Int×Int×(List Int))=>
        match s with
        | (j,A,B,C)=>
        if (decide (0<j)) then
         xZ (oH c A B p) fun n=>
         xZ (ap C ([n.1])) fun Q=>
         xZ (ck (j - 1)) fun R=>
         some (.go (R,n.2.1,n.2.2,Q))
        else
         some (.brk (j,A,B,C))) N (P.arity,d.2.1,d.2.2,[])) fun(T,F,G,H)=>
     xZ (ap y ([(Con.mk d.1 H)])) fun S=>
     xZ (ck (i - 1)) fun I=>
     some (.go (I,F,G,S))
    else
     some (.brk (i,t,x,y))) N (h.1,h.2.1,h.2.2,[])) fun(U,J,K,L)=>
 some ((Instance.mk p L),J,K)
theorem tV {B:Nat→Prop} {N:Nat} {au:List UInt8} {a5 ae:Int} {x1:Template} {x2:Int} (r:Instance×Int×Int) (d:fN N au a5 ae x1 x2=some r) {e:Nat} {h:Value} {O:Value} {M:List Nat} (t:World) (hN:∀ c,B c→c<t.heap.size) (S0:Sep M B t t [bx e [h,xC a5,.int .u64 ae] 106]) (a1:Bo B t (Sl 1 cD) h au) (b9:xO a5) (X:Bo B t (Pt 2 xJ) O x1) (bb:xO x2):Calls Tryz.prog 69 #[qC e,O,xC x2] t (Gv (fun v w'=>∃ (av:Value),v= .agg #[xC r.1.vars,av]∧Sep M B t w' [rl 2 qH 60 av r.1.cons,bx e [h,xC r.2.1,.int .u64 r.2.2] 106]∧xO r.1.vars∧xO r.2.1)):=by
 unfold fN at d
 refine xW (L:=[(0,qC e),(1,O),(2,xC x2)]) func69 rfl rfl rfl (sc rfl (sc rfl (sc rfl sn))) (fun a F=>?_);have H:=S0;refine xV (oA zeroValue29 F rfl rfl H fun a w f H F=>vE (xA 2 F rfl fun a F=>?_));obtain⟨z1,c1,d⟩:=xB d;obtain⟨X1,K1,ba⟩:=Sep.lend (K:=[bx e [h,xC a5,.int .u64 ae] 106]) (L:=[bx f [xC 0,qQ] 29]) (H.s [1,0] rfl rfl);refine oG F rfl call41 rfl (oO z1 c1 _ H.hN K1 (H.u a1) b9 bb) (fun a P w ⟨dd,S,i1,i2⟩ F=>?_);subst P;have H:Sep M B t w [bx e [h,xC z1.2.1,.int .u64 z1.2.2] 106,bx f [xC 0,qQ] 29]:=ba S;obtain⟨D,c2,d⟩:=xB d;refine cR F rfl rfl rfl c2 fun a F=>kY underlying29 zeroValue29 (fun w=>by simp [sizeOf2,sizeOf27];rfl) F rfl rfl rfl rfl rfl (oc rfl on) rfl rfl fun a F=>oA zeroValue29 F rfl rfl H fun a w p H F=>eX (vs:=[xC D,qQ]) sizeOf29 F rfl rfl rfl H (oc rfl (oc rfl on)) rfl rfl fun w H=>xG (xF (xV (xA 1 F rfl fun a F=>?_)));obtain⟨Y,c3,d⟩:=xB d;obtain⟨X2,K2,bc⟩:=Sep.lend (K:=[bx e [h,xC z1.2.1,.int .u64 z1.2.2] 106]) (L:=[bx p [xC D,qQ] 29,bx f [xC 0,qQ] 29]) (H.s [1,0,2] rfl rfl);refine oG F rfl call41 rfl (oO Y c3 _ H.hN K2 (H.u a1) i2 (show xO (7) by decide)) (fun a P w ⟨de,S,i3,i4⟩ F=>?_);subst P;have H:Sep M B t w [bx e [h,xC Y.2.1,.int .u64 Y.2.2] 106,bx p [xC D,qQ] 29,bx f [xC 0,qQ] 29]:=bc S;refine xA 1 F rfl fun a F=>xG ?_;obtain⟨o1,d,be⟩:=xT d;refine oR (fun a w=>∃ (s1 s2 s3:Int) (s4:List Con) (Z:Value),o1= .nx (s1,s2,s3,s4)∧Sk a 67 [(0,qC e),(6,qC f),(7,qC p)]∧Sep M B t w [rl 2 qH 60 Z s4,bx e [h,xC s2,.int .u64 s3] 106,bx p [xC D,Z] 29,bx f [xC 0,qQ] 29]∧xO s1∧xO s2) ?_ ?_
 ·
  refine oQ ?_;obtain⟨bf,bg,d⟩:=dE d;refine qY (fun g a w=>∃ (I U s7:Int) (A:List Con) (i:Value),fE bf g (I,U,s7,A)=some o1∧Sk a 67 [(0,qC e),(1,O),(6,qC f),(7,qC p),(8,xC I)]∧Sep M B t w [rl 2 qH 60 i A,bx e [h,xC U,.int .u64 s7] 106,bx p [xC D,i] 29,bx f [xC 0,qQ] 29]∧xO I∧xO U) N ?_ ?_
  ·
   exact⟨Y.1,Y.2.1,Y.2.2,[],qQ,d,F.su,(H.nl 2 qH 60),i3,i4⟩
  intro g1 a w ⟨I,U,s7,A,i,d,F,H,i5,i6⟩;obtain⟨df,t1,dg,d,aw⟩:=aQ d;rw[bg] at d;refine xF (xF ?_);obtain⟨o2,d,bh⟩:=xT d;refine oR (fun a w=>∃ (s9:Bool),o2= .nx s9∧Sk a 67 [(0,qC e),(1,O),(6,qC f),(7,qC p),(8,xC I),(27,.bool s9)]∧Sep M B t w [rl 2 qH 60 i A,bx e [h,xC U,.int .u64 s7] 106,bx p [xC D,i] 29,bx f [xC 0,qQ] 29]) ?_ ?_
  ·
   refine oM (xA 3 F rfl fun a F=>?_)
   rcases vJ (decide (0<I)) with a2 | a2
   ·
    replace d:=vY a2 d;have F:=F.eb 20 rfl a2;refine xA 1 F rfl fun a F=>oN F rfl rfl X fun a F=>oF (s':=1) kW F rfl rfl X xJ.f1 fun a p1 h1 F=>gX isAgg24 F rfl rfl H.sm h1 fun a v4 h2 F=>oL underlying24 F rfl rfl h2 fun a i7 F=>xA 2 F rfl fun a F=>xG ?_;exact⟨(decide (0<(x1.rels.length:Int))),(zL d),F.su,H⟩
   replace d:=vX a2 d;have F:=F.eb 20 rfl a2;refine xA 7 F rfl fun a F=>xG ?_;exact⟨false,(zL d),F.su,H⟩
  rintro a w ⟨s9,rfl,F,H⟩
  have d:=xY bh;refine xH (qS F rfl (fun af=>?_) (fun af=>?_))
  ·
   replace d:=vY af d;refine xS (xH (xF (oQ (xV (xA 2 F rfl fun a F=>oN F rfl rfl X fun a F=>oF (s':=1) kW F rfl rfl X xJ.f1 fun a p2 h3 F=>gX isAgg24 F rfl rfl H.sm h3 (fun a v5 h4 F=>?_))))));refine oL underlying24 F rfl rfl h4 (fun a i8 F=>?_);obtain⟨C,c4,d⟩:=xB d;obtain⟨X3,K3,bi⟩:=Sep.lend (K:=[bx e [h,xC U,.int .u64 s7] 106]) (L:=[rl 2 qH 60 i A,bx p [xC D,i] 29,bx f [xC 0,qQ] 29]) (H.s [1,0,2,3] rfl rfl);refine oG F rfl call41 rfl (oO C c4 _ H.hN K3 (H.u a1) i6 i8) (fun a P w ⟨dh,S,i9,bj⟩ F=>?_);subst P;have H:Sep M B t w [bx e [h,xC C.2.1,.int .u64 C.2.2] 106,rl 2 qH 60 i A,bx p [xC D,i] 29,bx f [xC 0,qQ] 29]:=bi S;refine kY underlying60 zeroValue60 (fun w=>by simp [sizeOf2,sizeOf32];rfl) F rfl rfl rfl rfl rfl (oc rfl on) rfl rfl fun a F=>oA zeroValue60 F rfl rfl H fun a w E H F=>eX (vs:=[xC C.1,qQ]) sizeOf60 F rfl rfl rfl H (oc rfl (oc rfl on)) rfl rfl fun w H=>xG (xF (xF (xQ H (by kernel_rfl) (by kernel_rfl) (xM F rfl (fun w l=>xL F rfl) fun a F=>qN F rfl rfl X fun a F=>qF (s':=1) kW F rfl rfl X xJ.f1 (fun a p3 h5 F=>?_)))));refine qlS isAgg24 F rfl rfl H.q h5 fun a v6 h6 F=>xM F rfl (fun w l=>xU mP F rfl rfl) fun a F=>qB isAgg2 F rfl rfl (H.qb 0 rfl) rfl (fun a F=>?_);obtain⟨z5,c5,d⟩:=xB d;refine qI underlying24 sizeOf57 F rfl rfl rfl h6 c5 fun a p4 h7 F=>qF (s':=1) mM F rfl rfl h7 qG.f0 fun a p5 h8 F=>qlI isAgg2 F rfl rfl H.q h8 fun a bm F=>xM F rfl (fun w l=>qU F rfl) fun a F=>kT fun w H=>xH ?_;obtain⟨o3,d,bn⟩:=xT d;refine oR (fun a w=>∃ (ag a3 a6:Int) (a7:List Int) (v7:Value),o3= .nx (ag,a3,a6,a7)∧Sk a 67 [(0,qC e),(1,O),(6,qC f),(7,qC p),(8,xC I),(9,qC E)]∧Sep M B t w [rl 1 xI 2 v7 a7,bx E [xC C.1,v7] 60,bx e [h,xC a3,.int .u64 a6] 106,rl 2 qH 60 i A,bx p [xC D,i] 29,bx f [xC 0,qQ] 29]∧xO ag∧xO a3) ?_ ?_
   ·
    refine oQ ?_;obtain⟨bp,bq,d⟩:=dE d;refine qY (fun g a w=>∃ (Q T W:Int) (J:List Int) (n:Value),fE bp g (Q,T,W,J)=some o3∧Sk a 67 [(0,qC e),(1,O),(6,qC f),(7,qC p),(8,xC I),(9,qC E),(10,xC Q)]∧Sep M B t w [rl 1 xI 2 n J,bx E [xC C.1,n] 60,bx e [h,xC T,.int .u64 W] 106,rl 2 qH 60 i A,bx p [xC D,i] 29,bx f [xC 0,qQ] 29]∧xO Q∧xO T) N ?_ ?_
    ·
     exact⟨z5.arity,C.2.1,C.2.2,[],qQ,d,F.su,(H.nl 1 xI 2),bm,bj⟩
    intro g2 a w ⟨Q,T,W,J,n,d,F,H,br,ah⟩;obtain⟨di,t2,dj,d,ax⟩:=aQ d;rw[bq] at d;refine xF (xV (xA 2 F rfl fun a F=>xG (qS F rfl (fun ai=>?_) (fun ai=>?_))))
    ·
     replace d:=vY ai d;refine xS (xH (xF (oQ ?_)));obtain⟨j,c6,d⟩:=xB d;obtain⟨z7,c7,d⟩:=xB d;obtain⟨w1,rfl⟩:∃ x,x=w:=⟨_,rfl⟩;have dk:=H.sm;obtain⟨X4,N1,g3,e1,H,bt,dl⟩:=(H.s [4,0,1,2,3,5] rfl rfl).fza;have K4:=g3.bk;refine xD H (by kernel_rfl) fun w H=>dp (fun G=>∀ (v9:Value) (a:Act) (w:World),Sk a 67 [(0,qC e),(1,O),(6,qC f),(7,qC p),(8,xC I),(9,qC E),(10,xC Q),(52,n),(57,v9)]→Sep X4 N1 w1 w [rl 1 xI 2 v9 ([j.1]),bx e [h,xC j.2.1,.int .u64 j.2.2] 106,rl 1 xI 2 n J,bx E [xC C.1,n] 60,rl 2 qH 60 i A,bx f [xC 0,qQ] 29]→xO j.2.1→∀ V,V = #[true,true,true,true,true,true,true,false,false,false]→G 3 V a w) ?_ (fun H1=>?_)
     ·
      intro v9 a w F H bu V aj;subst aj;refine xE H 7 rfl (by kernel_rfl) (oPL (sz:=1) (R:=xI) (z:=(xC 0)) (bytes:=8) underlying32 (by kernel_rfl) rfl rfl F rfl rfl rfl (H.s [2,0,1,3,4,5] rfl rfl) c7 fun a w bv H F=>xG ⟨⟨_,H⟩,?_⟩);refine oV 8 rfl (by kernel_rfl) (xN F rfl (fun w l=>xU dD F rfl rfl) fun a F=>xE H 9 rfl (by kernel_rfl) (oW sizeOf32 F rfl rfl rfl (H.s [2,0,1,3,4] rfl rfl) ((H.s [2,0,1,3,4] rfl rfl).l 1 rfl).one rfl rfl fun w H=>xG ⟨⟨_,H⟩,?_⟩));refine vP (by kernel_rfl) (vK (xH (oM (xA 1 F rfl fun a F=>?_))));obtain⟨z8,c8,d⟩:=xB d;refine fL F rfl rfl rfl c8 fun a F=>xA 1 F rfl fun a F=>xG ?_;replace d:=zM d ax;exact⟨t2,(by omega),z8,j.2.1,j.2.2,z7,bv,d,F.su,((bt.1 H (Ns.all ⟨n0,⟨n0,⟨n0,⟨n0,⟨n0,trivial⟩⟩⟩⟩⟩)).s [2,1,3,4,0,5] rfl rfl),(kQ c8),bu⟩
     refine dp (fun G=>∀ (a:Act) (w:World),Sk a 67 [(0,qC e),(1,O),(6,qC f),(7,qC p),(8,xC I),(9,qC E),(10,xC Q),(52,n),(56,xC j.1)]→Sep X4 N1 w1 w [bx e [h,xC j.2.1,.int .u64 j.2.2] 106,rl 1 xI 2 n J,bx E [xC C.1,n] 60,rl 2 qH 60 i A,bx f [xC 0,qQ] 29]→xO j.2.1→xO j.1→∀ V,V = #[true,true,true,true,true,true,false,false,false,false]→G 4 V a w) ?_ (fun H2=>?_)
     ·
      intro a w F H c0 i16 V aj;subst aj;refine xE H 6 rfl (by kernel_rfl) (dF (R:=xI) (y:=j.1) underlying32 sizeOf2 zeroValue2 rfl rfl F rfl rfl H (Eo.int i16) fun a w v11 H F=>xG ⟨⟨_,H⟩,?_⟩);exact H1 v11 _ _ (F.su) H c0 _ (by kernel_rfl)
     refine oV 0 rfl (by kernel_rfl) (xN F rfl (fun w l=>xU dD F rfl rfl) fun a F=>qP 2 rfl (by kernel_rfl) (xN F rfl (fun w l=>xL F rfl) fun a F=>oV 3 rfl (by kernel_rfl) (xN F rfl (fun w l=>xU fH F rfl rfl) fun a F=>oV 4 rfl (by kernel_rfl) (vB isAgg2 F rfl rfl (K4.v H.sm) rfl fun a F=>kH [1,5] (by kernel_rfl) (by simp) ⟨⟨_,rfl,?_⟩,⟨_,rfl,?_⟩,trivial⟩))))
     ·
      refine kC H (oB isAgg32 F rfl rfl (H.b 1 rfl) rfl fun a F=>xG ⟨⟨_,H⟩,?_⟩);refine xE H 5 rfl (by kernel_rfl) ?_;obtain⟨X5,K5,bk3⟩:=Sep.lend (K:=[bx e [h,xC T,.int .u64 W] 106]) (L:=[rl 1 xI 2 n J,bx E [xC C.1,n] 60,rl 2 qH 60 i A,bx f [xC 0,qQ] 29]) (H.s [2,0,1,3,4] rfl rfl);refine oG F rfl call41 rfl (oO j c6 _ H.hN K5 (H.u (e1 a1)) ah (kQ c2)) (fun a P w ⟨dm,S,i19,i20⟩ F=>?_);subst P;have H:Sep X4 N1 w1 w [bx e [h,xC j.2.1,.int .u64 j.2.2] 106,rl 1 xI 2 n J,bx E [xC C.1,n] 60,rl 2 qH 60 i A,bx f [xC 0,qQ] 29]:=bk3 S;refine xG ⟨⟨_,H⟩,?_⟩;exact H2 _ _ (F.su) H i20 i19 _ (by kernel_rfl)
     refine kC H ?_;obtain⟨X6,K6,bk4⟩:=Sep.lend (K:=[bx e [h,xC T,.int .u64 W] 106]) (L:=[rl 1 xI 2 n J,bx E [xC C.1,n] 60,rl 2 qH 60 i A,bx f [xC 0,qQ] 29]) (H.s [2,0,1,3,4] rfl rfl);refine oG F rfl call41 rfl (oO j c6 _ H.hN K6 (H.u (e1 a1)) ah (kQ c2)) (fun a P w ⟨dq,S,ay,az⟩ F=>?_);subst P;have H:Sep X4 N1 w1 w [bx e [h,xC j.2.1,.int .u64 j.2.2] 106,rl 1 xI 2 n J,bx E [xC C.1,n] 60,rl 2 qH 60 i A,bx f [xC 0,qQ] 29]:=bk4 S;refine xG ⟨⟨_,H⟩,?_⟩;refine kH [1,6] (by kernel_rfl) (by simp) ⟨⟨_,rfl,?_⟩,⟨_,rfl,?_⟩,trivial⟩
     ·
      refine kC H (oB isAgg32 F rfl rfl (H.b 2 rfl) rfl fun a F=>xG ⟨⟨_,H⟩,?_⟩);exact H2 _ _ (F.su) H az ay _ (by kernel_rfl)
     refine kC H (dF (R:=xI) (y:=j.1) underlying32 sizeOf2 zeroValue2 rfl rfl F rfl rfl H (Eo.int ay) fun a w v12 H F=>xG ⟨⟨_,H⟩,?_⟩);refine xE H 1 rfl (by kernel_rfl) (oB isAgg32 F rfl rfl (H.b 3 rfl) rfl fun a F=>xG ⟨⟨_,H⟩,?_⟩);exact H1 v12 _ _ (F.su) H az _ (by kernel_rfl)
    replace d:=vX ai d;refine qV (qX (qX ?_));replace d:=jO d ax;refine kF (xH ?_);exact⟨Q,T,W,J,n,(zL d),F.su,H,br,ah⟩
   rintro a w ⟨ag,a3,a6,a7,v7,rfl,F,H,dr,i24⟩
   have d:=xY bn;refine xH (oM (oD aD F rfl rfl rfl fun a F=>oB isAgg27 F rfl rfl (H.b 4 rfl) rfl fun a F=>fJ isAgg60 sizeOf60 F rfl rfl (H.b 1 rfl) rfl rfl (fun a F=>?_)));have H:=(qH.w i9 H);refine dY (R:=qH) (y:=(Con.mk C.1 a7)) underlying27 sizeOf60 zeroValue60 rfl rfl F rfl rfl H El.agg (fun a w ds H F=>?_);obtain⟨z9,c9,d⟩:=xB d;refine oPL (sz:=2) (R:=qH) (z:=(.agg #[xC 0,qQ])) (bytes:=32) underlying27 (by kernel_rfl) rfl rfl F rfl rfl rfl (H.s [3,0,1,2,4,5] rfl rfl) c9 fun a w v14 H F=>oD aD F rfl rfl rfl fun a F=>oW sizeOf27 F rfl rfl rfl (H.s [3,0,1,2,4] rfl rfl) ((H.s [3,0,1,2,4] rfl rfl).l 1 rfl).one rfl rfl fun w H=>zE (vK (xH (oM (xA 1 F rfl fun a F=>?_))));obtain⟨ca,b0,d⟩:=xB d;refine fL F rfl rfl rfl b0 fun a F=>xA 1 F rfl fun a F=>xG ?_;replace d:=zM d aw;exact⟨t1,(by omega),ca,a3,a6,z9,v14,d,F.su,(H.s [1,3,0,4] rfl rfl),(kQ b0),i24⟩
  replace d:=vX af d;refine qV (qX (qX ?_));replace d:=jO d aw;refine kF (xH ?_);exact⟨I,U,s7,A,i,(zL d),F.su,H,i5,i6⟩
 rintro a w ⟨s1,s2,s3,s4,Z,rfl,F,H,du,cb⟩
 have d:=xY be;refine xH (xV (fJ isAgg29 sizeOf29 F rfl rfl (H.b 2 rfl) rfl rfl fun a F=>eX (vs:=[xC D,Z]) sizeOf29 F rfl rfl rfl (H.s [3,0,1,2] rfl rfl) (oc rfl (oc ((H.s [3,0,1,2] rfl rfl).l 1 rfl).one on)) rfl rfl fun w H=>xG (xP (xR F rfl (kX (arr:=#[xC D,Z]) F isAgg29 sizeOf29 rfl (H.b 0 rfl)) ?_))));obtain rfl:=oj d;exact⟨_,rfl,Z,rfl,(H.s [1,2] rfl rfl),(kQ c2),cb⟩
def bE (d:List UInt8) (e f:Int):Option (Int×Int×Int):=
 xZ (zB d e f ([2,2,3,3,1,4,2])) fun c=>
 some (c.1,c.2.1,c.2.2)
theorem iV {B:Nat→Prop} {p:List UInt8} {h j:Int} (r:Int×Int×Int) (i:bE p h j=some r) {d:Nat} {f:Value} {t:List Nat} (e:World) (X:∀ c,B c→c<e.heap.size) (G:Sep t B e e [bx d [f,xC h,.int .u64 j] 106]) (y:Bo B e (Sl 1 cD) f p) (A:xO h):Calls Tryz.prog 110 #[qC d] e (Gv (fun v w'=>v=xC r.1∧Sep t B e w' [bx d [f,xC r.2.1,.int .u64 r.2.2] 106]∧xO r.1∧xO r.2.1)):=by
 unfold bE at i
 refine xW (L:=[(0,qC d)]) func110 rfl rfl rfl (sc rfl sn) (fun a F=>?_);have H:=G;refine xV (xA 1 F rfl fun a F=>vE (xA 1 F rfl fun a F=>oRI (xs:=[.const (xC 2),.const (xC 2),.const (xC 3),.const (xC 3),.const (xC 1),.const (xC 4),.const (xC 2)]) (l:=[2,2,3,3,1,4,2]) underlying32 sizeOf2 zeroValue2 rfl F rfl rfl rfl rfl rfl rfl (by simp only[List.forall_mem_cons,List.not_mem_nil,false_implies,implies_true,and_true];exact⟨(show xO (2) by decide),(show xO (2) by decide),(show xO (3) by decide),(show xO (3) by decide),(show xO (1) by decide),(show xO (4) by decide),(show xO (2) by decide)⟩) H (fun a w Y H F=>?_)));obtain⟨I,rfl⟩:∃ x,x=w:=⟨_,rfl⟩;have U:=H.sm;obtain⟨J,M,N,C,H,D,V⟩:=H.fza;have O:=N.ld;obtain⟨n,P,i⟩:=xB i;obtain⟨Z,K1,E⟩:=Sep.lend (K:=[bx d [f,xC h,.int .u64 j] 106]) (L:=[]) H;refine oG F rfl call68 rfl (qO n P _ H.hN K1 (H.u (C y)) A (H.u O)) (fun a Q w ⟨W,S,R,T⟩ F=>?_);subst Q;have H:Sep J M I w [bx d [f,xC n.2.1,.int .u64 n.2.2] 106]:=E S;refine xA 1 F rfl fun a F=>xG (xP ?_);have H:=(D.1 H (Ns.all ⟨n0,trivial⟩));refine xR F rfl (xX F rfl) ?_;obtain rfl:=oj i;exact⟨_,rfl,rfl,(H.s [1] rfl rfl),R,T⟩
def iP (N:Nat) (e:List UInt8) (f h i:Int):Option (Rel×Int×Int):=
 xZ (oH e f h 3) fun d=>
 xZ (ck (1+d.1)) fun j=>
 xZ (aY N e d.2.1 d.2.2 i j) fun c=>
 some ((Rel.mk c.1.arity c.1.tuples),c.2.1,c.2.2)
theorem yZ {B:Nat→Prop} {N:Nat} {E:List UInt8} {n A p:Int} (r:Rel×Int×Int) (e:iP N E n A p=some r) {d:Nat} {h:Value} {t:List Nat} (f:World) (hN:∀ c,B c→c<f.heap.size) (Q:Sep t B f f [bx d [h,xC n,.int .u64 A] 106]) (D:Bo B f (Sl 1 cD) h E) (J:xO n) (O:xO p):Calls Tryz.prog 142 #[qC d,xC p] f (Gv (fun v w'=>∃ (G:Value),v= .agg #[xC r.1.arity,G]∧Sep t B f w' [rl 1 (qK 1 xI) 32 G r.1.tuples,bx d [h,xC r.2.1,.int .u64 r.2.2] 106]∧xO r.1.arity∧xO r.2.1)):=by
 unfold iP at e
 refine xW (L:=[(0,qC d),(1,xC p)]) func142 rfl rfl rfl (sc rfl (sc rfl sn)) (fun a F=>?_);have H:=Q;refine xV (oA zeroValue57 F rfl rfl H fun a w x H F=>vE (xA 3 F rfl fun a F=>?_));obtain⟨j,R,e⟩:=xB e;obtain⟨X1,K1,M⟩:=Sep.lend (K:=[bx d [h,xC n,.int .u64 A] 106]) (L:=[bx x [xC 0,qQ] 57]) (H.s [1,0] rfl rfl);refine oG F rfl call41 rfl (oO j R _ H.hN K1 (H.u D) J (show xO (3) by decide)) (fun a C w ⟨Y,S,i1,T⟩ F=>?_);subst C;have H:Sep t B f w [bx d [h,xC j.2.1,.int .u64 j.2.2] 106,bx x [xC 0,qQ] 57]:=M S;obtain⟨z2,I,e⟩:=xB e;refine cR F rfl rfl rfl I (fun a F=>?_);obtain⟨i,U,e⟩:=xB e;obtain⟨X2,V,P⟩:=Sep.lend (K:=[bx d [h,xC j.2.1,.int .u64 j.2.2] 106]) (L:=[bx x [xC 0,qQ] 57]) H;refine oG F rfl call42 rfl (bH i U _ H.hN V (H.u D) T O (kQ I)) (fun a C w ⟨y,Z,S,W,X⟩ F=>?_);subst C;have H:Sep t B f w [rl 1 (qK 1 xI) 32 y i.1.tuples,bx d [h,xC i.2.1,.int .u64 i.2.2] 106,bx x [xC 0,qQ] 57]:=P S;refine eX (vs:=[xC i.1.arity,y]) sizeOf57 F rfl rfl rfl (H.s [2,0,1] rfl rfl) (oc rfl (oc ((H.s [2,0,1] rfl rfl).l 1 rfl).one on)) rfl rfl fun w H=>xG (xP (xR F rfl (kX (arr:=#[xC i.1.arity,y]) F isAgg57 sizeOf57 rfl (H.b 0 rfl)) ?_));obtain rfl:=oj e;exact⟨_,rfl,y,rfl,(H.s [1,2] rfl rfl),W,X⟩
end Go.Proofs.YtghihmkhdhjhiaaGreatDoor
