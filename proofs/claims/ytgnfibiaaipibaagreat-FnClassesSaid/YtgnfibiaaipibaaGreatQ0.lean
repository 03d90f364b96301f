import Derived.Test.YtgnfibiaaipibaaGreatZ
import Derived.Test.YtgnfibiaaipibaaGreatNG
namespace Go.Proofs.YtgnfibiaaipibaaGreat
open Go.Proofs.Tryz
set_option maxHeartbeats 1000000
set_option linter.unusedVariables false
set_option linter.unusedSimpArgs false
set_option maxRecDepth 100000
open Go.RowKit
def impl_chosen (c d:List Int):Option (List Int):=
 vT (σ:=(List Int)) (
  qJ (σ:=(List Int)) (ρ:=(List Int)) (fun (n:Nat) (e:Int) (f:(List Int))=>
   xY (ix c e) fun h=>
   xY (ap f ([h])) fun i=>
   some (.go i)) d 0 []) fun j=>
 some j
theorem impl_chosen_c {B:Nat→Prop} {G f:List Int} (r:(List Int)) (d:impl_chosen G f=some r) {n:Value} {p:Value} (h:World) (S:∀ c,B c→c<h.heap.size) (T:Bo B h (Sl 1 xH) n G) (I:Bo B h (Sl 1 xH) p f):Calls Tryz.prog 149 #[n,p] h (Gv (fun v w'=>∃ (E:Value),v=E∧Sep [] B h w' [rl 1 xH 2 E r])):=by
 unfold impl_chosen at d
 refine xV (L:=[(0,n),(1,p)]) func149 rfl rfl rfl (sc rfl (sc rfl sn)) (fun a F=>?_);have H:=Sep.start S;refine xP (xA 1 F rfl fun a F=>qO (oR0 (R:=xH) underlying25 sizeOf2 F rfl H fun a w U H F=>xA 1 F rfl fun a F=>xJ ?_));refine xC (xP (xA 1 F rfl fun a F=>oL underlying25 F rfl rfl I fun a J F=>xA 1 F rfl fun a F=>xJ ?_));obtain⟨K,d,M⟩:=xK d;refine xX (fun a w=>∃ (C:List Int) (t:Value),K= .nx C∧Sk a 24 [(5,t)]∧Sep [] B h w [rl 1 xH 2 t C]) ?_ ?_
 ·
  refine xW ?_;obtain⟨N,O,d⟩:=qE d;refine oU (fun g a w=>∃ (j:Nat) (i x:List Int) (A:Value),(j≤f.length∧f.drop j=i)∧i.length=g∧qJ N i j x=some K∧Sk a 24 [(11,xG (j:Int)),(0,n),(5,A),(9,p),(10,xG (f.length:Int))]∧Sep [] B h w [rl 1 xH 2 A x]) f.length ?_ ?_
  ·
   exact⟨0,f,[],U,⟨Nat.zero_le _,rfl⟩,rfl,d,F.su,H⟩
  intro g1 a w ⟨j,i,x,A,e,P,d,F,H⟩
  cases i with
  | nil=>
   replace d:=qH d;have V:=qG e.1 e.2;have D:=vA V;refine xP (xA 1 F rfl fun a F=>xJ (xC (qT F rfl D (oM (oR (oR (vH ?_)))))));refine xF ?_;exact⟨x,A,(vE d),F.su,H⟩
  | cons x2 i=>
   subst P;replace e:=oO e.2;have W:=oZ e.2.1;obtain⟨a6,d,Q⟩:=oV d;rw[O] at d;have D:=qM e.1;refine xP (xA 1 F rfl fun a F=>xJ (xC (qV F rfl D (xL (xF (xC ?_))))));have j1:=fE (Nat.le_of_lt e.1) J;have X:=zC e.1 J;refine xW (xP (oI underlying25 sizeOf2 F rfl rfl rfl I W fun a p1 Y F=>aN isAgg2 F rfl rfl H.sm Y fun a i2 F=>xA 1 F rfl fun a F=>xJ (xU (xA 2 F rfl fun a F=>?_))));refine xA 1 F rfl fun a F=>?_;obtain⟨Z,c1,d⟩:=xB d;refine oI underlying25 sizeOf2 F rfl rfl rfl T c1 fun a p2 h2 F=>aN isAgg2 F rfl rfl H.sm h2 fun a i3 F=>oR1z (R:=xH) (y:=Z) underlying25 sizeOf2 zeroValue2 rfl rfl F rfl rfl H (Eo.int i3) (fun a w v5 H F=>?_);obtain⟨z2,c2,d⟩:=xB d;refine oPL (sz:=1) (R:=xH) (z:=(xG 0)) (bytes:=8) underlying25 (by kernel_rfl) rfl rfl F rfl rfl rfl (H.s [1,0] rfl rfl) c2 fun a w v6 H F=>xA 1 F rfl fun a F=>oY (qS (xF (xU (qQ F rfl rfl rfl X fun a F=>xA 1 F rfl fun a F=>xJ ?_))));replace d:=qX d Q;exact⟨_,Nat.lt_succ_self _,j+1,i,z2,v6,⟨e.1,e.2.2⟩,rfl,d,F.su,H⟩
 rintro a w ⟨C,t,rfl,F,H⟩
 have d:=xN M;refine xF (xP (xA 2 F rfl fun a F=>xJ (xT (xS F rfl (oD F rfl) ?_))));obtain rfl:=oj d;exact⟨_,rfl,t,rfl,H⟩
def zA (N:Nat) (c:List (List Int)) (i:List Int) (j:(List Int)→(List Int)→Option Int):Option (Int×Bool):=
 vT (σ:=Int×Int) (
  cF (σ:=Int×Int) (ρ:=Int×Bool) (fun(s:Int×Int)=>
    match s with
    | (d,e)=>
    if (decide (d<e)) then
     xY (ck (d+e)) fun n=>
     xY (nn n) fun h=>
     xY (ix c (h / 2)) fun p=>
     xY (j p i) fun t=>
     if (decide (t<0)) then
      xY (ck ((h / 2)+1)) fun x=>
      some (.go (x,e))
     else
      some (.go (d,(h / 2)))
    else
     some (.brk (d,e))) N (0,(c.length:Int))) fun(f,C)=>
 vT (σ:=Int×Bool) (
  if (decide (f<(c.length:Int))) then  xY (ix c f) fun y=>
   xY (j y i) fun z=>
   some (.nx (f,(z==0))) else  some (.nx (f,false))) fun(A,B)=>
 some (A,B)
theorem cP {B:Nat→Prop} {N:Nat} {j:List (List Int)} {Q:List Int} {R:(List Int)→(List Int)→Option Int} (r:Int×Bool) (d:zA N j Q R=some r) {z:Value} {A:Value} {h:FuncId} {x:List Value} (e:World) (hN:∀ c,B c→c<e.heap.size) (I:Bo B e (Sl 1 (vO 1 xH)) z j) (S:Bo B e (Sl 1 xH) A Q) (O:∀ args w,(callFunc h args).run Tryz.prog w= .ok (.enter h args) w) (P:∀ (T U:List Int) (r:Int),R T U=some r→∀ W,Below e.heap.size e W→∀ (V X:Value),Bo (All W) W (Sl 1 xH) V T→Bo (All W) W (Sl 1 xH) X U→Calls Tryz.prog h ([V,X]++x:List Value).toArray W (dW r W)):Calls Tryz.prog 167 #[z,A,.func (.func h) #[] x.toArray] e (Gv (fun v w'=>v= .tuple #[xG r.1,.bool r.2]∧Sep [] B e w' []∧xZ r.1)):=by
 unfold zA at d
 refine xV (L:=[(0,z),(1,A),(2,.func (.func h) #[] x.toArray)]) func167 rfl rfl rfl (sc rfl (sc rfl (sc rfl sn))) (fun a F=>?_);have H:=Sep.start hN;refine xP (xA 2 F rfl fun a F=>qO (xA 1 F rfl fun a F=>oL underlying45 F rfl rfl I fun a i1 F=>xA 1 F rfl fun a F=>?_));refine qO (xA 3 F rfl fun a F=>xJ (xC ?_));obtain⟨Y,d,a6⟩:=xK d;refine xX (fun a w=>∃ (i J:Int),Y= .nx (i,J)∧Sk a 49 [(0,z),(1,A),(2,.func (.func h) #[] x.toArray),(8,xG (j.length:Int)),(9,xG i)]∧Sep [] B e w []∧xZ i∧xZ J) ?_ ?_
 ·
  refine xW ?_;obtain⟨a7,a8,d⟩:=kU d;refine oU (fun g a w=>∃ (n p:Int),cF a7 g (n,p)=some Y∧Sk a 49 [(0,z),(1,A),(2,.func (.func h) #[] x.toArray),(8,xG (j.length:Int)),(9,xG n),(10,xG p)]∧Sep [] B e w []∧xZ n∧xZ p) N ?_ ?_
  ·
   exact⟨0,(j.length:Int),d,F.su,H,(show xZ (0) by decide),i1⟩
  intro g1 a w ⟨n,p,d,F,H,Z,i3⟩;obtain⟨ao,t1,aq,d,D⟩:=zK d;rw[a8] at d;refine xC (xP (xA 3 F rfl fun a F=>xJ (qP F rfl (fun E=>?_) (fun E=>?_))))
  ·
   replace d:=vR E d;refine xL (xF (xW (xP (xA 2 F rfl fun a F=>?_))));obtain⟨z1,K,d⟩:=xB d;refine kI F rfl rfl rfl K (fun a F=>?_);obtain⟨t,f,d⟩:=xB d
   have i4:xZ t:=by rw[(nn_some f).2];exact(kG K)
   refine oU1 underlying3 underlying132 F rfl rfl (kG K) f fun a F=>oU2 F rfl rfl fun a F=>oU3 underlying132 underlying3 F rfl rfl (half64 i4 (nn_some (show nn t=some t by rw[(nn_some f).2];exact((nn_some f).2.symm ▸ f))).1) fun a F=>xA 1 F rfl fun a F=>qO (xA 3 F rfl fun a F=>?_);obtain⟨z3,c3,d⟩:=xB d;refine oI underlying45 sizeOf25 F rfl rfl rfl I c3 fun a p1 h1 F=>aY isAgg25 F rfl rfl H.sm h1 fun a v2 a9 F=>xA 1 F rfl fun a F=>?_;obtain⟨z4,c4,d⟩:=xB d;refine oKIV F rfl rfl O rfl H (P _ _ z4 c4 _ H.bl _ _ (H.a a9) (H.a S)) fun a w H ar F=>xA 1 F rfl fun a F=>xJ (qP F rfl (fun G=>?_) (fun G=>?_))
   ·
    replace d:=vR G d;refine xU (xA 1 F rfl fun a F=>?_);obtain⟨z5,c5,d⟩:=xB d;refine kI F rfl rfl rfl c5 fun a F=>xA 1 F rfl fun a F=>oY (qS (xF ?_));replace d:=qX d D;exact⟨t1,(by omega),z5,p,d,F.su,H,(kG c5),i3⟩
   replace d:=vQ G d;refine xU (xA 2 F rfl fun a F=>oY (qS (xF ?_)));replace d:=qX d D;exact⟨t1,(by omega),n,(t / 2),d,F.su,H,Z,(half64 i4 (nn_some (show nn t=some t by rw[(nn_some f).2];exact((nn_some f).2.symm ▸ f))).1)⟩
  replace d:=vQ E d;refine oM (oR (oR ?_));replace d:=eL d D;refine vH (xF ?_);exact⟨n,p,(vE d),F.su,H,Z,i3⟩
 rintro a w ⟨i,J,rfl,F,H,i5,i6⟩
 have d:=xN a6;refine xF (xC ?_);obtain⟨o2,d,aa⟩:=xK d;refine xX (fun a w=>∃ (C:Int) (M:Bool),o2= .nx (C,M)∧Sk a 49 [(6,xG C),(7,.bool M)]∧Sep [] B e w []∧xZ C) ?_ ?_
 ·
  refine xU (xA 5 F rfl fun a F=>?_)
  rcases qU (decide (i<(j.length:Int))) with y | y
  ·
   replace d:=vR y d;have F:=F.eb 39 rfl y;refine xA 3 F rfl fun a F=>?_;obtain⟨z6,c6,d⟩:=xB d;refine oI underlying45 sizeOf25 F rfl rfl rfl I c6 fun a p2 h2 F=>aY isAgg25 F rfl rfl H.sm h2 fun a v3 h3 F=>xA 1 F rfl fun a F=>?_;obtain⟨z7,c7,d⟩:=xB d;refine oKIV F rfl rfl O rfl H (P _ _ z7 c7 _ H.bl _ _ (H.a h3) (H.a S)) fun a w H au F=>xA 4 F rfl fun a F=>xJ ?_;exact⟨i,(z7==0),(vE d),F.su,H,i5⟩
  replace d:=vQ y d;have F:=F.eb 39 rfl y;refine xA 11 F rfl fun a F=>?_;refine xJ ?_;exact⟨i,false,(vE d),F.su,H,i5⟩
 rintro a w ⟨C,M,rfl,F,H,i7⟩
 have d:=xN aa;refine xF (xT (vV F rfl (oD F rfl) (oD F rfl) ?_));obtain rfl:=oj d;exact⟨_,rfl,rfl,H,i7⟩
def fF (c:Int):Option Bool:=
 some ((c != c))
theorem cmp_isNaN_int64_c {B:Nat→Prop} {d:Int} (r:Bool) (f:fF d=some r)  (e:World) (h:∀ c,B c→c<e.heap.size) (i:xZ d):Calls Tryz.prog 177 #[xG d] e (zO (.bool r) e):=by
 unfold fF at f
 refine xV (L:=[(0,xG d)]) func177 rfl rfl rfl (sc rfl sn) (fun a F=>?_);have H:=Sep.start h;refine xP (xA 1 F rfl fun a F=>qO (xA 4 F rfl fun a F=>?_));refine xJ (xT (xS F rfl (oD F rfl) ?_));obtain rfl:=oj f;exact⟨rfl,H.bl⟩
def bX (c d:Int):Option Int:=
 xY (fF c) fun f=>
 xY (fF d) fun e=>
 if f then
  if e then
   some 0
  else
   some ((-1))
 else
  if e then
   some 1
  else
   if (decide (c<d)) then
    some ((-1))
   else
    if (decide (d<c)) then
     some 1
    else
     some 0
theorem cmp_Compare_int64_c {B:Nat→Prop} {e f:Int} (r:Int) (d:bX e f=some r)  (t:World) (z:∀ c,B c→c<t.heap.size) (x:xZ e) (y:xZ f):Calls Tryz.prog 150 #[xG e,xG f] t (dW r t):=by
 unfold bX at d
 refine xV (L:=[(0,xG e),(1,xG f)]) func150 rfl rfl rfl (sc rfl (sc rfl sn)) (fun a F=>?_);have H:=Sep.start z;refine xP (xA 1 F rfl fun a F=>qO (xA 1 F rfl fun a F=>?_));obtain⟨A,C,d⟩:=xB d;refine oK F rfl call177 rfl H (cmp_isNaN_int64_c A C _ aA x) fun a w H F=>xA 1 F rfl fun a F=>qO (xA 1 F rfl fun a F=>?_);obtain⟨D,E,d⟩:=xB d;refine oK F rfl call177 rfl H (cmp_isNaN_int64_c D E _ aA y) fun a w H F=>xA 1 F rfl fun a F=>xJ (xC (xP (xA 1 F rfl fun a F=>xJ (qP F rfl (fun i=>?_) (fun i=>?_)))))
 ·
  replace d:=vR i d;refine xC (xP (xA 1 F rfl fun a F=>xJ (qP F rfl (fun h=>?_) (fun h=>?_))))
  ·
   replace d:=vR h d;refine xP (xA 1 F rfl fun a F=>xJ (xT (oE (oE (xS F rfl (oD F rfl) ?_)))));obtain rfl:=oj d;exact⟨⟨rfl,H.bl⟩,(show xZ (0) by decide)⟩
  replace d:=vQ h d;refine xL (xF (xP (xA 1 F rfl fun a F=>xJ (xT (oE (xS F rfl (oD F rfl) ?_))))));obtain rfl:=oj d;exact⟨⟨rfl,H.bl⟩,(show xZ (-1) by decide)⟩
 replace d:=vQ i d;refine xL (xF (xC (xP (xA 1 F rfl fun a F=>xJ (qP F rfl (fun j=>?_) (fun j=>?_))))))
 ·
  replace d:=vR j d;refine xP (xA 1 F rfl fun a F=>xJ (xT (oE (xS F rfl (oD F rfl) ?_))));obtain rfl:=oj d;exact⟨⟨rfl,H.bl⟩,(show xZ (1) by decide)⟩
 replace d:=vQ j d;refine xL (xF (xC (xP (xA 3 F rfl fun a F=>xJ (qP F rfl (fun n=>?_) (fun n=>?_))))))
 ·
  replace d:=vR n d;refine xP (xA 1 F rfl fun a F=>xJ (xT (oE (xS F rfl (oD F rfl) ?_))));obtain rfl:=oj d;exact⟨⟨rfl,H.bl⟩,(show xZ (-1) by decide)⟩
 replace d:=vQ n d;refine xL (xF (xC (xP (xA 3 F rfl fun a F=>xJ (qP F rfl (fun p=>?_) (fun p=>?_))))))
 ·
  replace d:=vR p d;refine xP (xA 1 F rfl fun a F=>xJ (xT (oE (xS F rfl (oD F rfl) ?_))));obtain rfl:=oj d;exact⟨⟨rfl,H.bl⟩,(show xZ (1) by decide)⟩
 replace d:=vQ p d;refine xL (xF (xP (xA 1 F rfl fun a F=>xJ (xT (xS F rfl (oD F rfl) ?_)))));obtain rfl:=oj d;exact⟨⟨rfl,H.bl⟩,(show xZ (0) by decide)⟩
def zI (d c:List Int):Option Int:=
 vT (σ:=Unit) (
  qJ (σ:=Unit) (ρ:=Int) (fun (e:Nat) (h:Int) (s:Unit)=>
    match s with
    | _=>
    if (decide ((c.length:Int)≤(e:Int))) then
     some (.ret 1)
    else
     xY (ix c (e:Int)) fun i=>
     xY (bX h i) fun f=>
     if (f != 0) then
      some (.ret f)
     else
      some (.go ())) d 0 ()) fun _=>
 if (decide ((d.length:Int)<(c.length:Int))) then
  some ((-1))
 else
  some 0
theorem eK {B:Nat→Prop} {h G:List Int} (r:Int) (d:zI h G=some r) {j:Value} {p:Value} (i:World) (P:∀ c,B c→c<i.heap.size) (C:Bo B i (Sl 1 xH) j h) (D:Bo B i (Sl 1 xH) p G):Calls Tryz.prog 118 #[j,p] i (dW r i):=by
 unfold zI at d
 refine xV (L:=[(0,j),(1,p)]) func118 rfl rfl rfl (sc rfl (sc rfl sn)) (fun a F=>?_);have H:=Sep.start P;refine xP (xA 1 F rfl fun a F=>xJ (xC (xP (xA 1 F rfl fun a F=>oL underlying25 F rfl rfl C fun a I F=>xA 1 F rfl fun a F=>?_))));refine xJ ?_;obtain⟨J,d,t⟩:=xK d;refine xX (fun a w=>J= .nx ()∧Sk a 36 [(0,j),(1,p)]∧Sep [] B i w []) ?_ ?_
 ·
  refine xW ?_;obtain⟨K,M,d⟩:=qE d;refine oU (fun g a w=>∃ (n:Nat) (f:List Int),(n≤h.length∧h.drop n=f)∧f.length=g∧qJ K f n ()=some J∧Sk a 36 [(11,xG (n:Int)),(0,j),(1,p),(9,j),(10,xG (h.length:Int))]∧Sep [] B i w []) h.length ?_ ?_
  ·
   exact⟨0,h,⟨Nat.zero_le _,rfl⟩,rfl,d,F.su,H⟩
  intro g1 a w ⟨n,f,e,N,d,F,H⟩
  cases f with
  | nil=>
   replace d:=qH d;have Q:=qG e.1 e.2;have E:=vA Q;refine xP (xA 1 F rfl fun a F=>xJ (xC (qT F rfl E (oM (oR (oR (vH ?_)))))));refine xF ?_;exact⟨(vE d),F.su,H⟩
  | cons x2 f=>
   subst N;replace e:=oO e.2;have R:=oZ e.2.1;obtain⟨a0,d,x⟩:=oV d;rw[M] at d;have E:=qM e.1;refine xP (xA 1 F rfl fun a F=>xJ (xC (qV F rfl E (xL (xF (xC ?_))))));have j1:=fE (Nat.le_of_lt e.1) I;have S:=zC e.1 I;refine xW (xP (xA 1 F rfl fun a F=>oI underlying25 sizeOf2 F rfl rfl rfl C R fun a p1 T F=>aN isAgg2 F rfl rfl H.sm T fun a U F=>xA 2 F rfl fun a F=>xJ (xC ?_)));refine xP (xA 2 F rfl fun a F=>oL underlying25 F rfl rfl D fun a i3 F=>xA 1 F rfl fun a F=>xJ (qP F rfl (fun y=>?_) (fun y=>?_)))
   ·
    replace d:=vR y d;refine xP (xA 1 F rfl fun a F=>xJ (xT (oE (vJ (oE (oE ?_))))));replace d:=zR d x;refine vJ (oE ?_);replace d:=zQ d t;refine oE (xS F rfl (oD F rfl) ?_);obtain rfl:=oj d;exact⟨⟨rfl,H.bl⟩,(show xZ (1) by decide)⟩
   replace d:=vQ y d;refine xL (xF (xP (xA 2 F rfl fun a F=>?_)));obtain⟨z1,V,d⟩:=xB d;refine oI underlying25 sizeOf2 F rfl rfl rfl D V fun a p2 W F=>aN isAgg2 F rfl rfl H.sm W fun a X F=>xA 1 F rfl fun a F=>qO (xA 2 F rfl fun a F=>?_);obtain⟨Y,Z,d⟩:=xB d;refine oKI F rfl call150 rfl H (cmp_Compare_int64_c Y Z _ aA U X) fun a w H O F=>xA 1 F rfl fun a F=>qO (xA 2 F rfl fun a F=>xJ (qP F rfl (fun z=>?_) (fun z=>?_)))
   ·
    replace d:=vR z d;refine xP (xA 2 F rfl fun a F=>xJ (xT (vJ (oE (oE ?_)))));replace d:=zR d x;refine vJ (oE ?_);replace d:=zQ d t;refine oE (xS F rfl (oD F rfl) ?_);obtain rfl:=oj d;exact⟨⟨rfl,H.bl⟩,O⟩
   replace d:=vQ z d;refine xL (qS (xF (xU (qQ F rfl rfl rfl S fun a F=>xA 1 F rfl fun a F=>xJ ?_))));replace d:=qX d x;exact⟨_,Nat.lt_succ_self _,n+1,f,⟨e.1,e.2.2⟩,rfl,d,F.su,H⟩
 rintro a w ⟨rfl,F,H⟩
 have d:=xN t;refine xF (xC (xP (xA 1 F rfl fun a F=>oL underlying25 F rfl rfl C fun a i5 F=>xA 1 F rfl fun a F=>oL underlying25 F rfl rfl D fun a i6 F=>xA 1 F rfl fun a F=>xJ ?_)));refine qP F rfl (fun A=>?_) (fun A=>?_)
 ·
  replace d:=vR A d;refine xP (xA 1 F rfl fun a F=>xJ (xT (oE (xS F rfl (oD F rfl) ?_))));obtain rfl:=oj d;exact⟨⟨rfl,H.bl⟩,(show xZ (-1) by decide)⟩
 replace d:=vQ A d;refine xL (xF (xP (xA 1 F rfl fun a F=>xJ (xT (xS F rfl (oD F rfl) ?_)))));obtain rfl:=oj d;exact⟨⟨rfl,H.bl⟩,(show xZ (0) by decide)⟩
def fZ (c d:List Int):Option Int:=
 xY (zI c d) fun e=>
 some e
theorem impl_Rel_has_1_c {B:Nat→Prop} {i j:List Int} (r:Int) (e:fZ i j=some r) {f:Value} {h:Value} (d:World) (p:∀ c,B c→c<d.heap.size) (t:Bo B d (Sl 1 xH) f i) (x:Bo B d (Sl 1 xH) h j):Calls Tryz.prog 168 #[f,h] d (dW r d):=by
 unfold fZ at e
 refine xV (L:=[(0,f),(1,h)]) func168 rfl rfl rfl (sc rfl (sc rfl sn)) (fun a F=>?_);have H:=Sep.start p;refine xP (xA 1 F rfl fun a F=>qO (xA 2 F rfl fun a F=>?_));obtain⟨y,z,e⟩:=xB e;refine oKI F rfl call118 rfl H (eK y z _ aA (H.a t) (H.a x)) fun a w H n F=>xA 1 F rfl fun a F=>xJ (xT (xS F rfl (oD F rfl) ?_));obtain rfl:=oj e;exact⟨⟨rfl,H.bl⟩,n⟩
def dX (N:Nat) (c:Rel) (d:List Int):Option Bool:=
 xY (zA N c.tuples d (fun e f=>fZ e f)) fun h=>
 some h.2
theorem iR {B:Nat→Prop} {N:Nat} {j:Rel} {n:List Int} (r:Bool) (e:dX N j n=some r) {f:Value} {i:Value} (d:World) (t:∀ c,B c→c<d.heap.size) (x:Bo B d (zX 2 qD) f j) (y:Bo B d (Sl 1 xH) i n):Calls Tryz.prog 138 #[f,i] d (zO (.bool r) d):=by
 unfold dX at e
 refine xV (L:=[(0,f),(1,i)]) func138 rfl rfl rfl (sc rfl (sc rfl sn)) (fun a F=>?_);have H:=Sep.start t;refine xP ?_;obtain⟨E,rfl,G,z⟩:=qD.o x;refine oX F rfl rfl rfl H fun a w I H F=>xA 1 F rfl fun a F=>qO (oH vW F rfl rfl rfl fun a F=>oB isAgg45 F rfl rfl (H.b 0 rfl) rfl fun a F=>xA 1 F rfl fun a F=>?_);obtain⟨A,p,e⟩:=xB e;refine oG F rfl call167 rfl (cP A p _ aA (H.a z) (H.a y) call168 (fun J K r h W M O P f0 f1=>impl_Rel_has_1_c r h W aA f0 f1)) (fun a C w ⟨D,S,Q⟩ F=>?_);subst C;have H:=H.r0 S;refine xA 5 F rfl fun a F=>qO (xA 2 F rfl fun a F=>?_);refine xJ (xT (xS F rfl (oD F rfl) ?_));obtain rfl:=oj e;exact⟨rfl,H.bl⟩
def aV (N:Nat) (e:Template) (c:Atom) (f:List Int):Option Bool:=
 xY (impl_chosen f c.args) fun d=>
 if (c.rel==(-1)) then
  xY (ix d 0) fun h=>
  xY (ix d 1) fun i=>
  some ((h==i))
 else
  xY (ix e.rels c.rel) fun j=>
  xY (dX N j d) fun n=>
  some n
theorem impl_Template_holds_c {B:Nat→Prop} {N:Nat} {n:Template} {p:Atom} {t:List Int} (r:Bool) (d:aV N n p t=some r) {h:Value} {i:Value} {j:Value} (e:World) (x:∀ c,B c→c<e.heap.size) (y:Bo B e (zX 2 xI) h n) (z:Bo B e (zX 2 zL) i p) (A:Bo B e (Sl 1 xH) j t):Calls Tryz.prog 160 #[h,i,j] e (zO (.bool r) e):=by
 unfold aV at d
 refine xV (L:=[(0,h),(1,i),(2,j)]) func160 rfl rfl rfl (sc rfl (sc rfl (sc rfl sn))) (fun a F=>?_);have H:=Sep.start x;refine xP ?_;obtain⟨Y,rfl,Z,C⟩:=xI.o y;refine oX F rfl rfl rfl H (fun a w b1 H F=>?_);obtain⟨V,rfl,i2,D⟩:=zL.o z;refine oX F rfl rfl rfl H fun a w b2 H F=>xA 1 F rfl fun a F=>qO (xA 1 F rfl fun a F=>oH fa181_1 F rfl rfl rfl fun a F=>oB isAgg25 F rfl rfl (H.b 0 rfl) rfl (fun a F=>?_));obtain⟨E,G,d⟩:=xB d;refine oG F rfl call149 rfl (impl_chosen_c E G _ aA (H.a A) (H.a D)) (fun a I w ⟨v4,W,S⟩ F=>?_);subst I;have H:=H.r1 S n0;refine xA 1 F rfl fun a F=>xJ (xC (xP (oH fa181_0 F rfl rfl rfl fun a F=>oB isAgg2 F rfl rfl (H.b 1 rfl) rfl fun a F=>xA 1 F rfl fun a F=>xJ ?_)));refine qP F rfl (fun f=>?_) (fun f=>?_)
 ·
  replace d:=vR f d;refine xC (xQ H (by kernel_rfl) (by kernel_rfl) (xR F rfl (fun w l=>xM F rfl) (fun a F=>?_)));obtain⟨z2,J,d⟩:=xB d;refine qI underlying25 sizeOf2 F rfl rfl rfl (H.l 0 rfl) J fun a p1 K F=>iB isAgg2 F rfl rfl qA K fun a i3 F=>xR F rfl (fun w l=>xM F rfl) (fun a F=>?_);obtain⟨z3,M,d⟩:=xB d;refine qI underlying25 sizeOf2 F rfl rfl rfl (H.l 0 rfl) M fun a X O F=>iB isAgg2 F rfl rfl qA O fun a i4 F=>xR F rfl (fun w l=>r_eql F rfl rfl) fun a F=>xR F rfl (fun w l=>zM F rfl) fun a F=>kA fun w H=>xF (xT (oE (xS F rfl (oD F rfl) ?_)));obtain rfl:=oj d;exact⟨rfl,H.bl⟩
 replace d:=vQ f d;refine xL (xF (xP (oH kR F rfl rfl rfl fun a F=>oB isAgg29 F rfl rfl (H.b 2 rfl) rfl fun a F=>oH fa181_0 F rfl rfl rfl fun a F=>oB isAgg2 F rfl rfl (H.b 1 rfl) rfl (fun a F=>?_))));obtain⟨z4,P,d⟩:=xB d;refine oI underlying29 sizeOf51 F rfl rfl rfl C P fun a p2 Q F=>olA isAgg51 sizeOf51 F rfl rfl H.sm Q fun a v5 R F=>xA 1 F rfl fun a F=>?_;obtain⟨T,U,d⟩:=xB d;refine oK F rfl call138 rfl H (iR T U _ aA (H.a R) (H.l 0 rfl)) fun a w H F=>xA 1 F rfl fun a F=>xJ (xT (xS F rfl (oD F rfl) ?_));obtain rfl:=oj d;exact⟨rfl,H.bl⟩
def eZ (N:Nat) (c:Atom) (d:solver) (e:(List Int)):Option Bool:=
 xY (aV N d.t (Atom.mk c.rel c.args) e) fun f=>
 some ((!f))
theorem impl_solver_goes_1_c {B:Nat→Prop} {N:Nat} {p:Atom} {t:solver} {x:(List Int)} (r:Bool) (e:eZ N p t x=some r) {f:Value} {i:Value} {j:Value} (d:World) (y:∀ c,B c→c<d.heap.size) (z:Bo B d (zX 2 zL) f p) (A:Bo B d (Pt 1 (RP 4 kF)) i t) (C:Bo B d (Pt 1 (vO 1 xH)) j x):Calls Tryz.prog 159 #[f,i,j] d (zO (.bool r) d):=by
 unfold eZ at e
 refine xV (L:=[(0,f),(1,i),(2,j)]) func159 rfl rfl rfl (sc rfl (sc rfl (sc rfl sn))) (fun a F=>?_);have H:=Sep.start y;refine xP ?_;obtain⟨O,rfl,D,E⟩:=zL.o z;refine oX F rfl rfl rfl H fun a w P H F=>xA 1 F rfl fun a F=>xJ (xC (xQ H (by kernel_rfl) (by kernel_rfl) (qlP isAgg139 F rfl rfl H.q A fun a Q n F=>qN F rfl rfl n fun a F=>qF (s':=2) fa199_0 F rfl rfl n kF.f0 fun a R G F=>qlA isAgg31 sizeOf31 F rfl rfl H.q G fun a S I F=>qBA isAgg181 sizeOf181 F rfl rfl (H.qb 0 rfl) rfl rfl (fun a F=>?_))));refine qlS isAgg25 F rfl rfl H.q C (fun a T J F=>?_);obtain⟨K,M,e⟩:=xB e;refine dD F rfl call160 rfl (fun w w' h l=>l.through h) (fun w l=>impl_Template_holds_c K M w aA ((H.go l).a I) (zL.m D ((H.go l).a E)) ((H.go l).a J)) fun a F=>xR F rfl (fun w l=>fW F rfl) fun a F=>xR F rfl (fun w l=>zM F rfl) fun a F=>kA fun w H=>xF (xT (xS F rfl (oD F rfl) ?_));obtain rfl:=oj e;exact⟨rfl,H.bl⟩
def aI (c:List Atom) (d:Atom→Option Bool):Option Int:=
 vT (σ:=Unit) (
  qJ (σ:=Unit) (ρ:=Int) (fun (e:Nat) (f:Atom) (s:Unit)=>
    match s with
    | _=>
    xY (d f) fun h=>
    if h then
     some (.ret ((e:Int)))
    else
     some (.go ())) c 0 ()) fun _=>
 some ((-1))
theorem slices_IndexFunc_s_Atom_Atom_c {B:Nat→Prop} {h:List Atom} {C:Atom→Option Bool} (r:Int) (d:aI h C=some r) {t:Value} {j:FuncId} {p:List Value} (f:World) (R:∀ c,B c→c<f.heap.size) (D:Bo B f (Sl 2 zL) t h) (K:∀ args w,(callFunc j args).run Tryz.prog w= .ok (.enter j args) w) (M:∀ (E:Atom) (r:Bool),C E=some r→∀ W,Below f.heap.size f W→∀ (G:Value),Bo (All W) W (zX 2 zL) G E→Calls Tryz.prog j ([G]++p:List Value).toArray W (zO (.bool r) W)):Calls Tryz.prog 178 #[t,.func (.func j) #[] p.toArray] f (dW r f):=by
 unfold aI at d
 refine xV (L:=[(0,t),(1,.func (.func j) #[] p.toArray)]) func178 rfl rfl rfl (sc rfl (sc rfl sn)) (fun a F=>?_);have H:=Sep.start R;refine xP (xA 1 F rfl fun a F=>xJ (xC (xP (xA 1 F rfl fun a F=>oL underlying179 F rfl rfl D fun a I F=>xA 1 F rfl fun a F=>?_))));refine xJ ?_;obtain⟨J,d,z⟩:=xK d;refine xX (fun a w=>J= .nx ()∧Sk a 19 []∧Sep [] B f w []) ?_ ?_
 ·
  refine xW ?_;obtain⟨N,O,d⟩:=qE d;refine oU (fun g a w=>∃ (n:Nat) (i:List Atom),(n≤h.length∧h.drop n=i)∧i.length=g∧qJ N i n ()=some J∧Sk a 19 [(8,xG (n:Int)),(0,t),(1,.func (.func j) #[] p.toArray),(7,xG (h.length:Int))]∧Sep [] B f w []) h.length ?_ ?_
  ·
   exact⟨0,h,⟨Nat.zero_le _,rfl⟩,rfl,d,F.su,H⟩
  intro g2 a w ⟨n,i,e,P,d,F,H⟩
  cases i with
  | nil=>
   replace d:=qH d;have S:=qG e.1 e.2;have y:=vA S;refine xP (xA 1 F rfl fun a F=>xJ (xC (qT F rfl y (oM (oR (oR (vH ?_)))))));refine xF ?_;exact⟨(vE d),F.sub sn,H⟩
  | cons x2 i=>
   subst P;replace e:=oO e.2;have T:=oZ e.2.1;obtain⟨a0,d,A⟩:=oV d;rw[O] at d;have y:=qM e.1;refine xP (xA 1 F rfl fun a F=>xJ (xC (qV F rfl y (xL (xF (xC ?_))))));have U:=fE (Nat.le_of_lt e.1) I;have V:=zC e.1 I;refine xW (xP (xA 2 F rfl fun a F=>qO (xA 2 F rfl fun a F=>?_)));refine xA 1 F rfl fun a F=>oI underlying179 sizeOf181 F rfl rfl rfl D T fun a p1 Q F=>olA isAgg181 sizeOf181 F rfl rfl H.sm Q (fun a v1 X F=>?_);obtain⟨Y,Z,d⟩:=xB d;refine oKV F rfl rfl K rfl H (M _ Y Z _ H.bl _ (H.a X)) fun a w H F=>xJ (qP F rfl (fun x=>?_) (fun x=>?_))
   ·
    replace d:=vR x d;refine xP (xA 2 F rfl fun a F=>xJ (xT (vJ (oE (oE ?_)))));replace d:=zR d A;refine vJ (oE ?_);replace d:=zQ d z;refine oE (xS F rfl (oD F rfl) ?_);obtain rfl:=oj d;exact⟨⟨rfl,H.bl⟩,U⟩
   replace d:=vQ x d;refine xL (qS (xF (xU (qQ F rfl rfl rfl V fun a F=>xA 1 F rfl fun a F=>xJ ?_))));replace d:=qX d A;exact⟨_,Nat.lt_succ_self _,n+1,i,⟨e.1,e.2.2⟩,rfl,d,F.su,H⟩
 rintro a w ⟨rfl,F,H⟩
 have d:=xN z;refine xF (xP (xA 1 F rfl fun a F=>xJ (xT (xS F rfl (oD F rfl) ?_))));obtain rfl:=oj d;exact⟨⟨rfl,H.bl⟩,(show xZ (-1) by decide)⟩
def zZ (c:List Atom) (d:Atom→Option Bool):Option Bool:=
 xY (aI c d) fun e=>
 some ((decide (0≤e)))
theorem iP {B:Nat→Prop} {p:List Atom} {t:Atom→Option Bool} (r:Bool) (f:zZ p t=some r) {n:Value} {e:FuncId} {j:List Value} (d:World) (A:∀ c,B c→c<d.heap.size) (C:Bo B d (Sl 2 zL) n p) (y:∀ args w,(callFunc e args).run Tryz.prog w= .ok (.enter e args) w) (z:∀ (i:Atom) (r:Bool),t i=some r→∀ W,Below d.heap.size d W→∀ (x:Value),Bo (All W) W (zX 2 zL) x i→Calls Tryz.prog e ([x]++j:List Value).toArray W (zO (.bool r) W)):Calls Tryz.prog 158 #[n,.func (.func e) #[] j.toArray] d (zO (.bool r) d):=by
 unfold zZ at f
 refine xV (L:=[(0,n),(1,.func (.func e) #[] j.toArray)]) func158 rfl rfl rfl (sc rfl (sc rfl sn)) (fun a F=>?_);have H:=Sep.start A;refine xP (xA 1 F rfl fun a F=>qO (xA 2 F rfl fun a F=>?_));obtain⟨D,E,f⟩:=xB f;refine oKI F rfl call178 rfl H (slices_IndexFunc_s_Atom_Atom_c D E _ aA (H.a C) y (fun i r h W G=>z i r h W (H.bl.trans (G.mono H.fr.size)))) fun a w H I F=>xA 2 F rfl fun a F=>xJ (xT (xS F rfl (oD F rfl) ?_));obtain rfl:=oj f;exact⟨rfl,H.bl⟩
def bK (N:Nat) (c:solver) (d:List Int):Option Bool:=
 xY (ck ((d.length:Int) - 1)) fun e=>
 xY (ix c.due e) fun f=>
 xY (zZ f (fun h=>eZ N h c d)) fun i=>
 some ((!i))
theorem impl_solver_goes_c {B:Nat→Prop} {N:Nat} {p:solver} {t:List Int} (r:Bool) (d:bK N p t=some r) {i:Value} {j:Value} (e:World) (z:∀ c,B c→c<e.heap.size) (f:Bo B e (Pt 4 kF) i p) (n:Bo B e (Sl 1 xH) j t):Calls Tryz.prog 132 #[i,j] e (zO (.bool r) e):=by
 unfold bK at d
 refine xV (L:=[(0,i),(1,j)]) func132 rfl rfl rfl (sc rfl (sc rfl sn)) (fun a F=>?_);have H:=Sep.start z;refine xP (oX F rfl rfl (one_cells (H.a f).pone) H fun a w K H F=>oX F rfl rfl (one_cells (H.a n).one) H fun a w M H F=>xA 1 F rfl fun a F=>xJ (xC (xQ H (by kernel_rfl) (by kernel_rfl) (qB isAgg139 F rfl rfl (H.qb 1 rfl) rfl fun a F=>qN F rfl rfl f (fun a F=>?_)))));refine qF (s':=1) fa199_2 F rfl rfl f kF.f2 fun a O A F=>qlS isAgg197 F rfl rfl H.q A fun a P y F=>qB isAgg25 F rfl rfl (H.qb 0 rfl) rfl fun a F=>qL underlying25 F rfl rfl n (fun a Q F=>?_);obtain⟨R,C,d⟩:=xB d;refine xR F rfl (fun w l=>r_sub F rfl rfl C) (fun a F=>?_);obtain⟨S,D,d⟩:=xB d;refine qI underlying197 sizeOf179 F rfl rfl rfl y D fun a T E F=>qlS isAgg179 F rfl rfl H.q E fun a U G F=>xR F rfl (fun w l=>r_func F rfl rfl) (fun a F=>?_);obtain⟨I,J,d⟩:=xB d;refine dD F rfl call158 rfl (fun w w' h l=>l.through h) (fun w l=>iP I J w aA ((H.go l).a G) call159 (fun V r h W x X f0=>impl_solver_goes_1_c r h W aA f0 ((c1P ((H.go l).g 1 rfl).bk ((H.go l).a f)).w x) ((c1S ((H.go l).g 0 rfl).bk ((H.go l).a n)).w x))) fun a F=>xR F rfl (fun w l=>fW F rfl) fun a F=>xR F rfl (fun w l=>zM F rfl) fun a F=>kA fun w H=>xF (xT (xS F rfl (oD F rfl) ?_));obtain rfl:=oj d;exact⟨rfl,H.bl⟩
def aD (c:List Int):Option (List Int):=
 some c
theorem slices_Clip_s_int64_int64_c {B:Nat→Prop} {i:List Int} (r:(List Int)) (j:aD i=some r) {e:Value} (d:World) (n:∀ c,B c→c<d.heap.size) (f:Bo B d (Sl 1 xH) e i):Calls Tryz.prog 161 #[e] d (Gv (fun v w'=>∃ (h:Option Addr),v=(.slice h r.length r.length)∧Sep [] B d w' []∧Bo B d (Sl 1 xH) (.slice h r.length r.length) r)):=by
 unfold aD at j
 refine xV (L:=[(0,e)]) func161 rfl rfl rfl (sc rfl sn) (fun a F=>?_);have H:=Sep.start n;refine xP (xA 1 F rfl fun a F=>qO (xA 2 F rfl fun a F=>oL underlying25 F rfl rfl f fun a x F=>xA 1 F rfl fun a F=>?_));refine oL underlying25 F rfl rfl f fun a y F=>oCl underlying25 sizeOf2 F rfl rfl rfl rfl f fun a p t F=>xA 1 F rfl fun a F=>xJ (xT (xS F rfl (oD F rfl) ?_));obtain rfl:=oj j;exact⟨_,rfl,p,rfl,H,t⟩
def kJ (c:List Int):Option Int:=
 vT (σ:=Unit) (
  if (decide ((c.length:Int)<1)) then
   none
  else
   some (.nx ())) fun _=>
 xY (ix c 0) fun f=>
 vT (σ:=Int) (
  zH (σ:=Int) (ρ:=Int) (fun (h:Nat) (d:Int)=>
   xY (ix c (1+(h:Int))) fun e=>
   some (.go (if d<e then e else d))) ((c.length:Int) - 1).toNat 0 f) fun i=>
 some i
theorem slices_Max_s_int64_int64_c {B:Nat→Prop} {p:List Int} (r:Int) (d:kJ p=some r) {h:Value} (e:World) (N:∀ c,B c→c<e.heap.size) (i:Bo B e (Sl 1 xH) h p):Calls Tryz.prog 157 #[h] e (dW r e):=by
 unfold kJ at d
 refine xV (L:=[(0,h)]) func157 rfl rfl rfl (sc rfl sn) (fun a F=>?_);have H:=Sep.start N;refine xP (xA 1 F rfl fun a F=>xJ (xC (xP (xA 1 F rfl fun a F=>oL underlying25 F rfl rfl i fun a Z F=>xA 1 F rfl fun a F=>?_))));refine xJ ?_;obtain⟨O,d,I⟩:=xK d;refine xX (fun a w=>O= .nx ()∧Sk a 25 [(0,h)]∧Sep [] B e w []) ?_ ?_
 ·
  refine qP F rfl (fun x=>?_) (fun x=>?_)
  ·
   replace d:=vR x d
   cases d
  replace d:=vQ x d;refine xL (xF ?_);exact⟨(vE d),F.su,H⟩
 rintro a w ⟨rfl,F,H⟩
 have d:=xN I;refine xF (xP (xA 1 F rfl fun a F=>?_));obtain⟨P,Q,d⟩:=xB d;refine oI underlying25 sizeOf2 F rfl rfl rfl i Q fun a p1 R F=>aN isAgg2 F rfl rfl H.sm R fun a S F=>xA 1 F rfl fun a F=>xJ (xC (xP (xA 1 F rfl fun a F=>xJ ?_)));obtain⟨z,d,G⟩:=xK d;refine xX (fun a w=>∃ (t:Int),z= .nx t∧Sk a 25 [(3,xG t)]∧Sep [] B e w []∧xZ t) ?_ ?_
 ·
  refine xW ?_;obtain⟨J,K,d⟩:=zG d;refine oU (fun g a w=>∃ (j:Nat) (f:Int),j+g=((p.length:Int) - 1).toNat∧zH J g j f=some z∧Sk a 25 [(4,xG (1+(j:Int))),(0,h),(3,xG f)]∧Sep [] B e w []∧xZ f) ((p.length:Int) - 1).toNat ?_ ?_
  ·
   exact⟨0,P,(Nat.zero_add _),d,F.su,H,S⟩
  intro A a w ⟨j,f,n,d,F,H,C⟩
  cases A with
  | zero=>
   replace d:=vY d;have y:=dec_noIO n;refine xC (xP (xA 2 F rfl fun a F=>oL underlying25 F rfl rfl i fun a i4 F=>xA 1 F rfl fun a F=>xJ (qT F rfl y (oM ?_))));refine oR (oR (vH (xF ?_)));exact⟨f,(vE d),F.su,H,C⟩
  | succ A=>
   obtain⟨Y,d,M⟩:=vX d;rw[K] at d;have y:=dec_yesIO n;refine xC (xP (xA 2 F rfl fun a F=>oL underlying25 F rfl rfl i fun a D F=>xA 1 F rfl fun a F=>xJ (qV F rfl y (xL ?_))));refine xF (xC ?_);have j1:=k64O n (show xZ (1) by decide) D;have T:=inc64O n (show xZ (1) by decide) D;refine xW (xU (xA 3 F rfl fun a F=>?_));obtain⟨E,U,d⟩:=xB d;refine oI underlying25 sizeOf2 F rfl rfl rfl i U fun a p2 V F=>aN isAgg2 F rfl rfl H.sm V fun a W F=>o_max F rfl rfl rfl fun a F=>xA 1 F rfl fun a F=>oY (qS (xF (xU (xA 1 F rfl fun a F=>o_incO F rfl rfl rfl T fun a F=>xA 1 F rfl fun a F=>?_))));refine xJ ?_;replace d:=qX d M;exact⟨_,Nat.lt_succ_self _,j+1,(if f<E then E else f),(by omega),d,F.su,H,(max64 C W)⟩
 rintro a w ⟨t,rfl,F,H,X⟩
 have d:=xN G;refine xF (xP (xA 2 F rfl fun a F=>xJ (xT (xS F rfl (oD F rfl) ?_))));obtain rfl:=oj d;exact⟨⟨rfl,H.bl⟩,X⟩
def vS (c:List Int):Option (List Int):=
 xY (ap ([]) c) fun d=>
 some d
theorem kH {B:Nat→Prop} {j:List Int} (r:(List Int)) (d:vS j=some r) {f:Value} (e:World) (t:∀ c,B c→c<e.heap.size) (n:Bo B e (Sl 1 xH) f j):Calls Tryz.prog 83 #[f] e (Gv (fun v w'=>∃ (h:Value),v=h∧Sep [] B e w' [rl 1 xH 2 h r])):=by
 unfold vS at d
 refine xV (L:=[(0,f)]) func83 rfl rfl rfl (sc rfl sn) (fun a F=>?_);have H:=Sep.start t;refine xP (xA 1 F rfl fun a F=>xJ (xC (xP (xA 1 F rfl fun a F=>oEn underlying25 F rfl rfl rfl (H.a n) fun a A p F=>oY ?_))));refine xF (qP F rfl (fun i=>?_) (fun i=>?_))
 ·
  replace d:some ([])=some r:=by rw[p i] at d;exact d
  refine xP (xA 1 F rfl fun a F=>xJ (xT (oE (xS F rfl (oD F rfl) ?_))));obtain rfl:=oj d;exact⟨_,rfl,aE,rfl,(H.nl 1 xH 2)⟩
 refine xL (xF (xP (oR0 (R:=xH) underlying25 sizeOf2 F rfl H fun a w C H F=>xA 1 F rfl fun a F=>?_)));obtain⟨D,x,d⟩:=xB d;refine oPf (sz:=1) (R:=xH) (z:=(xG 0)) (bytes:=8) underlying25 (by kernel_rfl) rfl rfl F rfl rfl rfl H.lw (H.lw.a n) x (fun a w y H F=>?_);have H:=H.tl;refine xA 1 F rfl fun a F=>xJ (xT (xS F rfl (oD F rfl) ?_));obtain rfl:=oj d;exact⟨_,rfl,y,rfl,H⟩
end Go.Proofs.YtgnfibiaaipibaaGreat
