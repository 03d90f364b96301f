import Derived.Test.YtncganhbpbehaaaGreatNG
import Derived.Test.YtncganhbpbehaaaGreatSO
import Derived.Test.YtncganhbpbehaaaGreatSW
import Derived.Test.YtncganhbpbehaaaGreatDE
namespace Go.Proofs.YtncganhbpbehaaaGreat
open Go.Proofs.Tryz
set_option maxHeartbeats 1000000
set_option linter.unusedVariables false
set_option linter.unusedSimpArgs false
open Go.RowKit
end Go.Proofs.YtncganhbpbehaaaGreat
namespace Go.Proofs.YtncganhbpbehaaaGreat
open Go.Proofs.Tryz
set_option linter.unusedVariables false
set_option linter.unusedSimpArgs false
set_option maxRecDepth 100000
open Go.RowKit
def bZ (c d e:Int):Option Bool:=
 zR (σ:=Bool) (
  if (decide (d≤c)) then  some (.nx (decide (c≤e))) else  some (.nx false)) fun f=>
 some f
theorem eJ {B:Nat→Prop} {e h i:Int} (r:Bool) (d:bZ e h i=some r)  (j:World) (t:∀ c,B c→c<j.heap.size) (y:xS e) (A:xS h) (C:xS i):Calls Tryz.prog 68 #[xC e,xC h,xC i] j (kL (.bool r) j):=by
 unfold bZ at d
 refine xX (L:=[(0,xC e),(1,xC h),(2,xC i)]) func68 rfl rfl rfl (sc rfl (sc rfl (sc rfl sn))) (fun a F=>?_);have H:=Sep.start t;refine xV (xA 1 F rfl fun a F=>xJ (xF ?_));obtain⟨x,d,p⟩:=xM d;refine oH (fun a w=>∃ (n:Bool),x= .nx n∧Sk a 15 [(6,.bool n)]∧Sep [] B j w []) ?_ ?_
 ·
  refine xY (xA 4 F rfl fun a F=>?_)
  rcases vR (decide (h≤e)) with f | f
  ·
   replace d:=vX f d;have F:=F.eb 10 rfl f;refine xA 5 F rfl fun a F=>xJ ?_;exact⟨(decide (e≤i)),(zH d),F.su,H⟩
  replace d:=vW f d;have F:=F.eb 10 rfl f;refine xA 5 F rfl fun a F=>xJ ?_;exact⟨false,(zH d),F.su,H⟩
 rintro a w ⟨n,rfl,F,H⟩
 have d:=xW p;refine xG (xR (xT F rfl (oE F rfl) ?_));obtain rfl:=oj d;exact⟨rfl,H.bl⟩
def iF (c:Int):Option Bool:=
 xZ (bZ c 1 4) fun d=>
 some d
theorem rZ {B:Nat→Prop} {d:Int} (r:Bool) (e:iF d=some r)  (f:World) (i:∀ c,B c→c<f.heap.size) (h:xS d):Calls Tryz.prog 109 #[xC d] f (kL (.bool r) f):=by
 unfold iF at e
 refine xX (L:=[(0,xC d)]) func109 rfl rfl rfl (sc rfl sn) (fun a F=>?_);have H:=Sep.start i;refine xV (xA 1 F rfl fun a F=>vG (xA 1 F rfl fun a F=>?_));obtain⟨j,n,e⟩:=xB e;refine oK F rfl call68 rfl H (eJ j n _ aA h (show xS (1) by decide) (show xS (4) by decide)) fun a w H F=>xA 1 F rfl fun a F=>xJ (xR (xT F rfl (oE F rfl) ?_));obtain rfl:=oj e;exact⟨rfl,H.bl⟩
def gF (c:Int):Option Bool:=
 xZ (bZ c 1 4) fun d=>
 some d
theorem pR {B:Nat→Prop} {d:Int} (r:Bool) (e:gF d=some r)  (f:World) (i:∀ c,B c→c<f.heap.size) (h:xS d):Calls Tryz.prog 83 #[xC d] f (kL (.bool r) f):=by
 unfold gF at e
 refine xX (L:=[(0,xC d)]) func83 rfl rfl rfl (sc rfl sn) (fun a F=>?_);have H:=Sep.start i;refine xV (xA 1 F rfl fun a F=>vG (xA 1 F rfl fun a F=>?_));obtain⟨j,n,e⟩:=xB e;refine oK F rfl call68 rfl H (eJ j n _ aA h (show xS (1) by decide) (show xS (4) by decide)) fun a w H F=>xA 1 F rfl fun a F=>xJ (xR (xT F rfl (oE F rfl) ?_));obtain rfl:=oj e;exact⟨rfl,H.bl⟩
def dU (c d:Int):Option Bool:=
 xZ (ck (c - 1)) fun e=>
 xZ (bZ d 0 e) fun f=>
 some f
theorem rA {B:Nat→Prop} {e f:Int} (r:Bool) (d:dU e f=some r)  (h:World) (n:∀ c,B c→c<h.heap.size) (x:xS e) (j:xS f):Calls Tryz.prog 71 #[xC e,xC f] h (kL (.bool r) h):=by
 unfold dU at d
 refine xX (L:=[(0,xC e),(1,xC f)]) func71 rfl rfl rfl (sc rfl (sc rfl sn)) (fun a F=>?_);have H:=Sep.start n;refine xV (xA 1 F rfl fun a F=>vG (xA 2 F rfl fun a F=>?_));obtain⟨y,i,d⟩:=xB d;refine gM F rfl rfl rfl i (fun a F=>?_);obtain⟨p,t,d⟩:=xB d;refine oK F rfl call68 rfl H (eJ p t _ aA j (show xS (0) by decide) (kV i)) fun a w H F=>xA 1 F rfl fun a F=>xJ (xR (xT F rfl (oE F rfl) ?_));obtain rfl:=oj d;exact⟨rfl,H.bl⟩
def eU (c d:Int):Option Bool:=
 xZ (dU d c) fun e=>
 some ((!e))
theorem sU {B:Nat→Prop} {d i:Int} (r:Bool) (e:eU d i=some r) {h:Value} (f:World) (n:∀ c,B c→c<f.heap.size) (j:xS d) (p:Bo B f (Pt 1 xI) h i):Calls Tryz.prog 115 #[xC d,h] f (kL (.bool r) f):=by
 unfold eU at e
 refine xX (L:=[(0,xC d),(1,h)]) func115 rfl rfl rfl (sc rfl (sc rfl sn)) (fun a F=>?_);have H:=Sep.start n;refine xV (xA 1 F rfl fun a F=>vG (olI isAgg2 F rfl rfl H.sm p fun a t F=>xA 1 F rfl fun a F=>?_));obtain⟨x,y,e⟩:=xB e;refine oK F rfl call71 rfl H (rA x y _ aA t j) fun a w H F=>xA 2 F rfl fun a F=>xJ (xR (xT F rfl (oE F rfl) ?_));obtain rfl:=oj e;exact⟨rfl,H.bl⟩
def vV (c:List Int) (d:Int→Option Bool):Option Int:=
 zR (σ:=Unit) (
  qT (σ:=Unit) (ρ:=Int) (fun (e:Nat) (f:Int) (s:Unit)=>
    match s with
    | _=>
    xZ (d f) fun h=>
    if h then
     some (.ret ((e:Int)))
    else
     some (.go ())) c 0 ()) fun _=>
 some ((-1))
theorem eA {B:Nat→Prop} {h:List Int} {E:Int→Option Bool} (r:Int) (d:vV h E=some r) {t:Value} {j:FuncId} {p:List Value} (f:World) (R:∀ c,B c→c<f.heap.size) (G:Bo B f (Sl 1 xI) t h) (K:∀ args w,(callFunc j args).run Tryz.prog w= .ok (.enter j args) w) (M:∀ (y:Int) (r:Bool),E y=some r→∀ W,Below f.heap.size f W→xS y→Calls Tryz.prog j ([xC y]++p:List Value).toArray W (kL (.bool r) W)):Calls Tryz.prog 124 #[t,.func (.func j) #[] p.toArray] f (fS r f):=by
 unfold vV at d
 refine xX (L:=[(0,t),(1,.func (.func j) #[] p.toArray)]) func124 rfl rfl rfl (sc rfl (sc rfl sn)) (fun a F=>?_);have H:=Sep.start R;refine xV (xA 1 F rfl fun a F=>xJ (xF (xV (xA 1 F rfl fun a F=>oL underlying41 F rfl rfl G fun a I F=>xA 1 F rfl fun a F=>?_))));refine xJ ?_;obtain⟨J,d,C⟩:=xM d;refine oH (fun a w=>J= .nx ()∧Sk a 19 []∧Sep [] B f w []) ?_ ?_
 ·
  refine oJ ?_;obtain⟨N,O,d⟩:=qP d;refine qK (fun g a w=>∃ (n:Nat) (i:List Int),(n≤h.length∧h.drop n=i)∧i.length=g∧qT N i n ()=some J∧Sk a 19 [(8,xC (n:Int)),(0,t),(1,.func (.func j) #[] p.toArray),(7,xC (h.length:Int))]∧Sep [] B f w []) h.length ?_ ?_
  ·
   exact⟨0,h,⟨Nat.zero_le _,rfl⟩,rfl,d,F.su,H⟩
  intro g2 a w ⟨n,i,e,P,d,F,H⟩
  cases i with
  | nil=>
   replace d:=qO d;have S:=qQ e.1 e.2;have A:=vS S;refine xV (xA 1 F rfl fun a F=>xJ (xF (zD F rfl A (qJ (qM (qM (zQ ?_)))))));refine xG ?_;exact⟨(zH d),F.sub sn,H⟩
  | cons x2 i=>
   subst P;replace e:=oZ e.2;have T:=qX e.2.1;obtain⟨a0,d,D⟩:=qG d;rw[O] at d;have A:=vE e.1;refine xV (xA 1 F rfl fun a F=>xJ (xF (zC F rfl A (xN (xG (xF ?_))))));have U:=gP (Nat.le_of_lt e.1) I;have V:=zU e.1 I;refine oJ (xV (xA 2 F rfl fun a F=>vG (xA 2 F rfl fun a F=>?_)));refine xA 1 F rfl fun a F=>oI underlying41 sizeOf2 F rfl rfl rfl G T fun a p1 X F=>olI isAgg2 F rfl rfl H.sm X (fun a Q F=>?_);obtain⟨Y,Z,d⟩:=xB d;refine oKV F rfl rfl K rfl H (M _ Y Z _ H.bl Q) fun a w H F=>xJ (qV F rfl (fun x=>?_) (fun x=>?_))
   ·
    replace d:=vX x d;refine xV (xA 2 F rfl fun a F=>xJ (xR (vT (oQ (oQ ?_)))));replace d:=kD d D;refine vT (oQ ?_);replace d:=zZ d C;refine oQ (xT F rfl (oE F rfl) ?_);obtain rfl:=oj d;exact⟨⟨rfl,H.bl⟩,U⟩
   replace d:=vW x d;refine xN (vH (xG (xY (vP F rfl rfl rfl V fun a F=>xA 1 F rfl fun a F=>xJ ?_))));replace d:=vU d D;exact⟨_,Nat.lt_succ_self _,n+1,i,⟨e.1,e.2.2⟩,rfl,d,F.su,H⟩
 rintro a w ⟨rfl,F,H⟩
 have d:=xW C;refine xG (xV (xA 1 F rfl fun a F=>xJ (xR (xT F rfl (oE F rfl) ?_))));obtain rfl:=oj d;exact⟨⟨rfl,H.bl⟩,(show xS (-1) by decide)⟩
def zY (c:List Int) (d:Int→Option Bool):Option Bool:=
 xZ (vV c d) fun e=>
 some ((decide (0≤e)))
theorem gQ {B:Nat→Prop} {p:List Int} {t:Int→Option Bool} (r:Bool) (i:zY p t=some r) {n:Value} {e:FuncId} {j:List Value} (d:World) (A:∀ c,B c→c<d.heap.size) (C:Bo B d (Sl 1 xI) n p) (x:∀ args w,(callFunc e args).run Tryz.prog w= .ok (.enter e args) w) (y:∀ (f:Int) (r:Bool),t f=some r→∀ W,Below d.heap.size d W→xS f→Calls Tryz.prog e ([xC f]++j:List Value).toArray W (kL (.bool r) W)):Calls Tryz.prog 114 #[n,.func (.func e) #[] j.toArray] d (kL (.bool r) d):=by
 unfold zY at i
 refine xX (L:=[(0,n),(1,.func (.func e) #[] j.toArray)]) func114 rfl rfl rfl (sc rfl (sc rfl sn)) (fun a F=>?_);have H:=Sep.start A;refine xV (xA 1 F rfl fun a F=>vG (xA 2 F rfl fun a F=>?_));obtain⟨D,E,i⟩:=xB i;refine oKI F rfl call124 rfl H (eA D E _ aA (H.a C) x (fun f r h W G=>y f r h W (H.bl.trans (G.mono H.fr.size)))) fun a w H I F=>xA 2 F rfl fun a F=>xJ (xR (xT F rfl (oE F rfl) ?_));obtain rfl:=oj i;exact⟨rfl,H.bl⟩
def aY (d:Int) (c:List Int) (e:Int):Option Bool:=
 zR (σ:=Bool) (
  if ((c.length:Int)==e) then  xZ (zY c (fun f=>eU f d)) fun h=>
   some (.nx (!h)) else  some (.nx false)) fun i=>
 some i
theorem nI {B:Nat→Prop} {j:Int} {n:List Int} {f:Int} (r:Bool) (d:aY j n f=some r) {p:Value} (i:World) (E:∀ c,B c→c<i.heap.size) (A:xS j) (x:Bo B i (Sl 1 xI) p n) (J:xS f):Calls Tryz.prog 81 #[xC j,p,xC f] i (kL (.bool r) i):=by
 unfold aY at d
 refine xX (L:=[(0,xC j),(1,p),(2,xC f)]) func81 rfl rfl rfl (sc rfl (sc rfl (sc rfl sn))) (fun a F=>?_);have H:=Sep.start E;refine xV (oX F rfl rfl rfl H fun a w K H F=>xA 1 F rfl fun a F=>xJ (xF ?_));obtain⟨C,d,D⟩:=xM d;refine oH (fun a w=>∃ (t:Bool),C= .nx t∧Sk a 17 [(6,.bool t)]∧Sep [] B i w []) ?_ ?_
 ·
  refine xY (xA 1 F rfl fun a F=>oL underlying41 F rfl rfl x fun a M F=>xA 3 F rfl fun a F=>?_)
  rcases vR ((n.length:Int)==f) with e | e
  ·
   replace d:=vX e d;have F:=F.eb 11 rfl e;refine xA 1 F rfl fun a F=>mW F rfl rfl rfl (fun a F=>?_);obtain⟨y,G,d⟩:=xB d;refine oK F rfl call114 rfl H (gQ y G _ aA (H.a x) call115 (fun N r h W I f0=>sU r h W aA f0 ((c1I (H.g 0 rfl).bk A).w I))) fun a w H F=>xA 3 F rfl fun a F=>xJ ?_;exact⟨(!y),(zH d),F.su,(H.s [] rfl rfl)⟩
  replace d:=vW e d;have F:=F.eb 11 rfl e;refine xA 6 F rfl fun a F=>xJ ?_;exact⟨false,(zH d),F.su,(H.s [] rfl rfl)⟩
 rintro a w ⟨t,rfl,F,H⟩
 have d:=xW D;refine xG (xR (xT F rfl (oE F rfl) ?_));obtain rfl:=oj d;exact⟨rfl,H.bl⟩
def cW (d:Int) (c:Rel):Option Bool:=
 zR (σ:=Bool) (
  xZ (iF d) fun h=>
  if (!h) then  some (.nx true) else  xZ (gF c.arity) fun i=>
   some (.nx (!i))) fun j=>
 if j then
  some false
 else
  zR (σ:=Unit) (
   qT (σ:=Unit) (ρ:=Bool) (fun (e:Nat) (f:(List Int)) (s:Unit)=>
     match s with
     | _=>
     zR (σ:=Bool) (
      xZ (aY d f c.arity) fun n=>
      if (!n) then  some (.nx true) else  if (decide (0<(e:Int))) then  xZ (ck ((e:Int) - 1)) fun p=>
        xZ (ix c.tuples p) fun t=>
        xZ (zN t f) fun x=>
        some (.nx (decide (0≤x))) else  some (.nx false)) fun y=>
     if y then
      some (.ret false)
     else
      some (.go ())) c.tuples 0 ()) fun _=>
  some true
theorem wF {B:Nat→Prop} {j:Int} {e:Rel} (r:Bool) (d:cW j e=some r) {E:Value} (h:World) (hN:∀ c,B c→c<h.heap.size) (M:xS j) (A1:Bo B h (kK 2 oV) E e):Calls Tryz.prog 112 #[xC j,E] h (kL (.bool r) h):=by
 unfold cW at d
 refine xX (L:=[(0,xC j),(1,E)]) func112 rfl rfl rfl (sc rfl (sc rfl sn)) (fun a F=>?_);have H:=Sep.start hN;refine xV ?_;obtain⟨A,rfl,P,G⟩:=oV.o A1;refine oX F rfl rfl rfl H fun a w p H F=>xA 1 F rfl fun a F=>xJ (xF (xF ?_));obtain⟨o1,d,X⟩:=xM d;refine oH (fun a w=>∃ (I:Bool),o1= .nx I∧Sk a 46 [(0,xC j),(3,oO p),(15,.bool I)]∧Sep [] B h w [bx p [xC e.arity,A] 66]) ?_ ?_
 ·
  refine xY (xA 1 F rfl fun a F=>?_);obtain⟨Q,c1,d⟩:=xB d;refine oK F rfl call109 rfl H (rZ Q c1 _ aA M) fun a w H F=>xA 2 F rfl fun a F=>?_
  rcases vR (!Q) with t | t
  ·
   replace d:=vX t d;have F:=F.eb 10 rfl t;refine xA 5 F rfl fun a F=>xJ ?_;exact⟨true,(zH d),F.su,H⟩
  replace d:=vW t d;have F:=F.eb 10 rfl t;refine oD mU F rfl rfl rfl fun a F=>oB isAgg2 F rfl rfl (H.b 0 rfl) rfl (fun a F=>?_);obtain⟨R,c2,d⟩:=xB d;refine oK F rfl call83 rfl H (pR R c2 _ aA P) fun a w H F=>xA 2 F rfl fun a F=>xJ ?_;exact⟨(!R),(zH d),F.su,H⟩
 rintro a w ⟨I,rfl,F,H⟩
 have d:=xW X;refine xG (qV F rfl (fun C=>?_) (fun C=>?_))
 ·
  replace d:=vX C d;refine xV (xA 1 F rfl fun a F=>xJ (xR (oQ (xT F rfl (oE F rfl) ?_))));obtain rfl:=oj d;exact⟨rfl,H.bl⟩
 replace d:=vW C d;refine xN (xG (xF (xV (oD bG F rfl rfl rfl fun a F=>oB isAgg38 F rfl rfl (H.b 0 rfl) rfl fun a F=>oL underlying38 F rfl rfl G fun a S F=>xA 1 F rfl fun a F=>xJ ?_))));obtain⟨T,d,N⟩:=xM d;refine oH (fun a w=>T= .nx ()∧Sk a 46 []∧Sep [] B h w []) ?_ ?_
 ·
  refine oJ ?_;obtain⟨Y,Z,d⟩:=qP d;refine qK (fun g a w=>∃ (i:Nat) (n:List (List Int)),(i≤e.tuples.length∧e.tuples.drop i=n)∧n.length=g∧qT Y n i ()=some T∧Sk a 46 [(19,xC (i:Int)),(0,xC j),(3,oO p),(17,A),(18,xC (e.tuples.length:Int))]∧Sep [] B h w [bx p [xC e.arity,A] 66]) e.tuples.length ?_ ?_
  ·
   exact⟨0,e.tuples,⟨Nat.zero_le _,rfl⟩,rfl,d,F.su,H⟩
  intro g1 a w ⟨i,n,f,a0,d,F,H⟩
  cases n with
  | nil=>
   replace d:=qO d;have q1:=qQ f.1 f.2;have J:=vS q1;refine xV (xA 1 F rfl fun a F=>xJ (xF (zD F rfl J (qJ (qM (qM (zQ ?_)))))));refine xG ?_;exact⟨(zH d),F.sub sn,(H.s [] rfl rfl)⟩
  | cons x2 n=>
   subst a0;replace f:=oZ f.2;have y1:=qX f.2.1;obtain⟨ai,d,O⟩:=qG d;rw[Z] at d;have J:=vE f.1;refine xV (xA 1 F rfl fun a F=>xJ (xF (zC F rfl J (xN (xG (xF ?_))))));have j1:=gP (Nat.le_of_lt f.1) S;have m1:=zU f.1 S;refine oJ (xV (xA 1 F rfl fun a F=>oI underlying38 sizeOf41 F rfl rfl rfl G y1 fun a p1 h2 F=>olS isAgg41 F rfl rfl H.sm h2 fun a v3 U F=>xA 2 F rfl fun a F=>xJ (xF ?_)));obtain⟨o3,d,a1⟩:=xM d;refine oH (fun a w=>∃ (K:Bool),o3= .nx K∧Sk a 46 [(0,xC j),(3,oO p),(17,A),(18,xC (e.tuples.length:Int)),(19,xC (i:Int)),(44,.bool K)]∧Sep [] B h w [bx p [xC e.arity,A] 66]) ?_ ?_
   ·
    refine xY (xA 2 F rfl fun a F=>oD mU F rfl rfl rfl fun a F=>oB isAgg2 F rfl rfl (H.b 0 rfl) rfl (fun a F=>?_));obtain⟨V,c3,d⟩:=xB d;refine oK F rfl call81 rfl H (nI V c3 _ aA M (H.a U) P) fun a w H F=>xA 2 F rfl fun a F=>?_
    rcases vR (!V) with x | x
    ·
     replace d:=vX x d;have F:=F.eb 30 rfl x;refine xA 11 F rfl fun a F=>?_;refine xA 3 F rfl fun a F=>xJ ?_;exact⟨true,(zH d),F.su,H⟩
    replace d:=vW x d;have F:=F.eb 30 rfl x;refine xA 3 F rfl fun a F=>?_
    rcases vR (decide (0<(i:Int))) with y | y
    ·
     replace d:=vX y d;have F:=F.eb 33 rfl y;refine oD bG F rfl rfl rfl fun a F=>oB isAgg38 F rfl rfl (H.b 0 rfl) rfl fun a F=>xA 1 F rfl fun a F=>?_;obtain⟨z4,c4,d⟩:=xB d;refine gM F rfl rfl rfl c4 (fun a F=>?_);obtain⟨z5,c5,d⟩:=xB d;refine oI underlying38 sizeOf41 F rfl rfl rfl G c5 fun a p2 h4 F=>olS isAgg41 F rfl rfl H.sm h4 fun a v4 h5 F=>xA 1 F rfl fun a F=>?_;obtain⟨W,c6,d⟩:=xB d;refine oKI F rfl call140 rfl H (eX W c6 _ aA (H.a h5) (H.a U)) fun a w H aj F=>xA 3 F rfl fun a F=>xJ ?_;exact⟨(decide (0≤W)),(zH d),F.su,H⟩
    replace d:=vW y d;have F:=F.eb 33 rfl y;refine xA 11 F rfl fun a F=>?_;refine xJ ?_;exact⟨false,(zH d),F.su,H⟩
   rintro a w ⟨K,rfl,F,H⟩
   have d:=xW a1;refine xG (qV F rfl (fun D=>?_) (fun D=>?_))
   ·
    replace d:=vX D d;refine xV (xA 1 F rfl fun a F=>xJ (xR (vT (oQ (oQ ?_)))));replace d:=kD d O;refine vT (oQ ?_);replace d:=zZ d N;refine oQ (xT F rfl (oE F rfl) ?_);obtain rfl:=oj d;exact⟨rfl,H.bl⟩
   replace d:=vW D d;refine xN (vH (xG (xY (vP F rfl rfl rfl m1 fun a F=>xA 1 F rfl fun a F=>xJ ?_))));replace d:=vU d O;exact⟨_,Nat.lt_succ_self _,i+1,n,⟨f.1,f.2.2⟩,rfl,d,F.su,H⟩
 rintro a w ⟨rfl,F,H⟩
 have d:=xW N;refine xG (xV (xA 1 F rfl fun a F=>xJ (xR (xT F rfl (oE F rfl) ?_))));obtain rfl:=oj d;exact⟨rfl,H.bl⟩
def dQ (c:Rel) (d:Template):Option Bool:=
 xZ (cW d.size (Rel.mk c.arity c.tuples)) fun e=>
 some ((!e))
theorem nQ {B:Nat→Prop} {i:Rel} {j:Template} (r:Bool) (e:dQ i j=some r) {f:Value} {h:Value} (d:World) (p:∀ c,B c→c<d.heap.size) (t:Bo B d (kK 2 oV) f i) (x:Bo B d (Pt 2 xH) h j):Calls Tryz.prog 111 #[f,h] d (kL (.bool r) d):=by
 unfold dQ at e
 refine xX (L:=[(0,f),(1,h)]) func111 rfl rfl rfl (sc rfl (sc rfl sn)) (fun a F=>?_);have H:=Sep.start p;refine xV ?_;obtain⟨G,rfl,y,A⟩:=oV.o t;refine oX F rfl rfl rfl H fun a w I H F=>xA 1 F rfl fun a F=>vG (oF (s':=1) iD F rfl rfl x xH.f0 fun a J n F=>olI isAgg2 F rfl rfl H.sm n fun a C F=>dJ isAgg66 sizeOf66 F rfl rfl (H.b 0 rfl) rfl rfl (fun a F=>?_));obtain⟨D,E,e⟩:=xB e;refine oK F rfl call112 rfl H (wF D E _ aA C (oV.m y (H.a A))) fun a w H F=>xA 2 F rfl fun a F=>xJ (xR (xT F rfl (oE F rfl) ?_));obtain rfl:=oj e;exact⟨rfl,H.bl⟩
def bC (c:List Rel) (d:Rel→Option Bool):Option Int:=
 zR (σ:=Unit) (
  qT (σ:=Unit) (ρ:=Int) (fun (e:Nat) (f:Rel) (s:Unit)=>
    match s with
    | _=>
    xZ (d f) fun h=>
    if h then
     some (.ret ((e:Int)))
    else
     some (.go ())) c 0 ()) fun _=>
 some ((-1))
theorem jW {B:Nat→Prop} {h:List Rel} {D:Rel→Option Bool} (r:Int) (d:bC h D=some r) {t:Value} {j:FuncId} {p:List Value} (f:World) (S:∀ c,B c→c<f.heap.size) (E:Bo B f (Sl 2 oV) t h) (M:∀ args w,(callFunc j args).run Tryz.prog w= .ok (.enter j args) w) (N:∀ (G:Rel) (r:Bool),D G=some r→∀ W,Below f.heap.size f W→∀ (I:Value),Bo (All W) W (kK 2 oV) I G→Calls Tryz.prog j ([I]++p:List Value).toArray W (kL (.bool r) W)):Calls Tryz.prog 139 #[t,.func (.func j) #[] p.toArray] f (fS r f):=by
 unfold bC at d
 refine xX (L:=[(0,t),(1,.func (.func j) #[] p.toArray)]) func139 rfl rfl rfl (sc rfl (sc rfl sn)) (fun a F=>?_);have H:=Sep.start S;refine xV (xA 1 F rfl fun a F=>xJ (xF (xV (xA 1 F rfl fun a F=>oL underlying24 F rfl rfl E fun a J F=>xA 1 F rfl fun a F=>?_))));refine xJ ?_;obtain⟨K,d,A⟩:=xM d;refine oH (fun a w=>K= .nx ()∧Sk a 19 []∧Sep [] B f w []) ?_ ?_
 ·
  refine oJ ?_;obtain⟨O,P,d⟩:=qP d;refine qK (fun g a w=>∃ (n:Nat) (i:List Rel),(n≤h.length∧h.drop n=i)∧i.length=g∧qT O i n ()=some K∧Sk a 19 [(8,xC (n:Int)),(0,t),(1,.func (.func j) #[] p.toArray),(7,xC (h.length:Int))]∧Sep [] B f w []) h.length ?_ ?_
  ·
   exact⟨0,h,⟨Nat.zero_le _,rfl⟩,rfl,d,F.su,H⟩
  intro g2 a w ⟨n,i,e,Q,d,F,H⟩
  cases i with
  | nil=>
   replace d:=qO d;have T:=qQ e.1 e.2;have y:=vS T;refine xV (xA 1 F rfl fun a F=>xJ (xF (zD F rfl y (qJ (qM (qM (zQ ?_)))))));refine xG ?_;exact⟨(zH d),F.sub sn,H⟩
  | cons x2 i=>
   subst Q;replace e:=oZ e.2;have U:=qX e.2.1;obtain⟨a1,d,C⟩:=qG d;rw[P] at d;have y:=vE e.1;refine xV (xA 1 F rfl fun a F=>xJ (xF (zC F rfl y (xN (xG (xF ?_))))));have V:=gP (Nat.le_of_lt e.1) J;have X:=zU e.1 J;refine oJ (xV (xA 2 F rfl fun a F=>vG (xA 2 F rfl fun a F=>?_)));refine xA 1 F rfl fun a F=>oI underlying24 sizeOf66 F rfl rfl rfl E U fun a p1 R F=>olA isAgg66 sizeOf66 F rfl rfl H.sm R (fun a v1 Y F=>?_);obtain⟨Z,c1,d⟩:=xB d;refine oKV F rfl rfl M rfl H (N _ Z c1 _ H.bl _ (H.a Y)) fun a w H F=>xJ (qV F rfl (fun x=>?_) (fun x=>?_))
   ·
    replace d:=vX x d;refine xV (xA 2 F rfl fun a F=>xJ (xR (vT (oQ (oQ ?_)))));replace d:=kD d C;refine vT (oQ ?_);replace d:=zZ d A;refine oQ (xT F rfl (oE F rfl) ?_);obtain rfl:=oj d;exact⟨⟨rfl,H.bl⟩,V⟩
   replace d:=vW x d;refine xN (vH (xG (xY (vP F rfl rfl rfl X fun a F=>xA 1 F rfl fun a F=>xJ ?_))));replace d:=vU d C;exact⟨_,Nat.lt_succ_self _,n+1,i,⟨e.1,e.2.2⟩,rfl,d,F.su,H⟩
 rintro a w ⟨rfl,F,H⟩
 have d:=xW A;refine xG (xV (xA 1 F rfl fun a F=>xJ (xR (xT F rfl (oE F rfl) ?_))));obtain rfl:=oj d;exact⟨⟨rfl,H.bl⟩,(show xS (-1) by decide)⟩
def kQ (c:List Rel) (d:Rel→Option Bool):Option Bool:=
 xZ (bC c d) fun e=>
 some ((decide (0≤e)))
theorem iY {B:Nat→Prop} {p:List Rel} {t:Rel→Option Bool} (r:Bool) (f:kQ p t=some r) {n:Value} {e:FuncId} {j:List Value} (d:World) (C:∀ c,B c→c<d.heap.size) (D:Bo B d (Sl 2 oV) n p) (y:∀ args w,(callFunc e args).run Tryz.prog w= .ok (.enter e args) w) (A:∀ (i:Rel) (r:Bool),t i=some r→∀ W,Below d.heap.size d W→∀ (x:Value),Bo (All W) W (kK 2 oV) x i→Calls Tryz.prog e ([x]++j:List Value).toArray W (kL (.bool r) W)):Calls Tryz.prog 110 #[n,.func (.func e) #[] j.toArray] d (kL (.bool r) d):=by
 unfold kQ at f
 refine xX (L:=[(0,n),(1,.func (.func e) #[] j.toArray)]) func110 rfl rfl rfl (sc rfl (sc rfl sn)) (fun a F=>?_);have H:=Sep.start C;refine xV (xA 1 F rfl fun a F=>vG (xA 2 F rfl fun a F=>?_));obtain⟨E,G,f⟩:=xB f;refine oKI F rfl call139 rfl H (jW E G _ aA (H.a D) y (fun i r h W I=>A i r h W (H.bl.trans (I.mono H.fr.size)))) fun a w H J F=>xA 2 F rfl fun a F=>xJ (xR (xT F rfl (oE F rfl) ?_));obtain rfl:=oj f;exact⟨rfl,H.bl⟩
def bK (c:Template):Option Bool:=
 zR (σ:=Bool) (
  xZ (iF c.size) fun d=>
  if d then  if (decide ((c.rels.length:Int)≤6)) then  xZ (kQ c.rels (fun e=>dQ e (Template.mk c.size c.rels))) fun f=>
    some (.nx (!f)) else  some (.nx false) else  some (.nx false)) fun h=>
 some h
theorem pU {B:Nat→Prop} {j:Template} (r:Bool) (d:bK j=some r) {n:Value} (i:World) (E:∀ c,B c→c<i.heap.size) (G:Bo B i (kK 2 xH) n j):Calls Tryz.prog 77 #[n] i (kL (.bool r) i):=by
 unfold bK at d
 refine xX (L:=[(0,n)]) func77 rfl rfl rfl (sc rfl sn) (fun a F=>?_);have H:=Sep.start E;refine xV ?_;obtain⟨M,rfl,x,p⟩:=xH.o G;refine oX F rfl rfl rfl H fun a w N H F=>xA 1 F rfl fun a F=>xJ (xF ?_);obtain⟨I,d,C⟩:=xM d;refine oH (fun a w=>∃ (t:Bool),I= .nx t∧Sk a 19 [(2,.bool t)]∧Sep [] B i w []) ?_ ?_
 ·
  refine xY (oD iD F rfl rfl rfl fun a F=>oB isAgg2 F rfl rfl (H.b 0 rfl) rfl (fun a F=>?_));obtain⟨y,J,d⟩:=xB d;refine oK F rfl call109 rfl H (rZ y J _ aA x) fun a w H F=>xA 1 F rfl fun a F=>?_
  rcases vR y with e | e
  ·
   replace d:=vX e d;have F:=F.eb 6 rfl e;refine oD kG F rfl rfl rfl fun a F=>oB isAgg24 F rfl rfl (H.b 0 rfl) rfl fun a F=>oL underlying24 F rfl rfl p fun a O F=>xA 3 F rfl fun a F=>?_
   rcases vR (decide ((j.rels.length:Int)≤6)) with f | f
   ·
    replace d:=vX f d;have F:=F.eb 12 rfl f;refine oD kG F rfl rfl rfl fun a F=>oB isAgg24 F rfl rfl (H.b 0 rfl) rfl fun a F=>mW F rfl rfl rfl (fun a F=>?_);obtain⟨A,D,d⟩:=xB d;refine oK F rfl call110 rfl H (iY A D _ aA (H.a p) call111 (fun P r h W K Q f0=>nQ r h W aA f0 ((xH.b (H.g 0 rfl).bk x (H.a p)).w K))) fun a w H F=>xA 3 F rfl fun a F=>xJ ?_;exact⟨(!A),(zH d),F.su,(H.s [] rfl rfl)⟩
   replace d:=vW f d;have F:=F.eb 12 rfl f;refine xA 7 F rfl fun a F=>xJ ?_;exact⟨false,(zH d),F.su,(H.s [] rfl rfl)⟩
  replace d:=vW e d;have F:=F.eb 6 rfl e;refine xA 11 F rfl fun a F=>?_;refine xA 2 F rfl fun a F=>xJ ?_;exact⟨false,(zH d),F.su,(H.s [] rfl rfl)⟩
 rintro a w ⟨t,rfl,F,H⟩
 have d:=xW C;refine xG (xR (xT F rfl (oE F rfl) ?_));obtain rfl:=oj d;exact⟨rfl,H.bl⟩
def mH (c:Int):Option Bool:=
 xZ (bZ c 1 10) fun d=>
 some d
theorem xAz {B:Nat→Prop} {d:Int} (r:Bool) (e:mH d=some r)  (f:World) (i:∀ c,B c→c<f.heap.size) (h:xS d):Calls Tryz.prog 78 #[xC d] f (kL (.bool r) f):=by
 unfold mH at e
 refine xX (L:=[(0,xC d)]) func78 rfl rfl rfl (sc rfl sn) (fun a F=>?_);have H:=Sep.start i;refine xV (xA 1 F rfl fun a F=>vG (xA 1 F rfl fun a F=>?_));obtain⟨j,n,e⟩:=xB e;refine oK F rfl call68 rfl H (eJ j n _ aA h (show xS (1) by decide) (show xS (10) by decide)) fun a w H F=>xA 1 F rfl fun a F=>xJ (xR (xT F rfl (oE F rfl) ?_));obtain rfl:=oj e;exact⟨rfl,H.bl⟩
def dR (c:Con) (d:Template) (e:Instance):Option Bool:=
 zR (σ:=Bool) (
  xZ (ck ((d.rels.length:Int) - 1)) fun f=>
  xZ (bZ c.rel 0 f) fun h=>
  if (!h) then  some (.nx true) else  xZ (ix d.rels c.rel) fun i=>
   xZ (aY e.vars c.scope i.arity) fun j=>
   some (.nx (!j))) fun n=>
 some n
theorem nT {B:Nat→Prop} {t:Con} {x:Template} {y:Instance} (r:Bool) (d:dR t x y=some r) {i:Value} {j:Value} {n:Value} (e:World) (I:∀ c,B c→c<e.heap.size) (J:Bo B e (kK 2 oR) i t) (A:Bo B e (Pt 2 xH) j x) (K:Bo B e (Pt 2 xK) n y):Calls Tryz.prog 80 #[i,j,n] e (kL (.bool r) e):=by
 unfold dR at d
 refine xX (L:=[(0,i),(1,j),(2,n)]) func80 rfl rfl rfl (sc rfl (sc rfl (sc rfl sn))) (fun a F=>?_);have H:=Sep.start I;refine xV ?_;obtain⟨v3,rfl,M,N⟩:=oR.o J;refine oX F rfl rfl rfl H fun a w b1 H F=>xA 1 F rfl fun a F=>xJ (xF ?_);obtain⟨O,d,G⟩:=xM d;refine oH (fun a w=>∃ (p:Bool),O= .nx p∧Sk a 28 [(4,.bool p)]∧Sep [] B e w []) ?_ ?_
 ·
  refine xQ H (by kernel_rfl) (by kernel_rfl) (xP F rfl (fun w l=>oM lX F rfl rfl) fun a F=>qB isAgg2 F rfl rfl (H.qb 0 rfl) rfl fun a F=>qF (s':=1) kG F rfl rfl A xH.f1 fun a p1 P F=>qlS isAgg24 F rfl rfl H.q P fun a v4 Q F=>qL underlying24 F rfl rfl Q (fun a i2 F=>?_));obtain⟨z1,C,d⟩:=xB d;refine xP F rfl (fun w l=>rC F rfl rfl C) (fun a F=>?_);obtain⟨D,R,d⟩:=xB d;refine fX F rfl call68 rfl (fun w w' h l=>l.through h) (fun w l=>eJ D R w aA M (show xS (0) by decide) (kV C)) fun a F=>xP F rfl (fun w l=>lD F rfl) fun a F=>xP F rfl (fun w l=>xL F rfl) (fun a F=>?_)
  rcases vR (!D) with f | f
  ·
   replace d:=vX f d;have F:=F.eb 13 rfl f;refine qR F rfl rfl fun a F=>qR F rfl rfl fun a F=>qR F rfl rfl fun a F=>qR F rfl rfl fun a F=>qR F rfl rfl fun a F=>qR F rfl rfl fun a F=>qR F rfl rfl fun a F=>qR F rfl rfl fun a F=>qR F rfl rfl fun a F=>qR F rfl rfl fun a F=>qR F rfl rfl (fun a F=>?_);refine qR F rfl rfl fun a F=>qR F rfl rfl fun a F=>xP F rfl (fun w l=>cD F rfl rfl) fun a F=>xP F rfl (fun w l=>vK F rfl) fun a F=>kZ fun w H=>xG ?_;exact⟨true,(zH d),F.su,(H.s [] rfl rfl)⟩
  replace d:=vW f d;have F:=F.eb 13 rfl f;refine qF (s':=1) eE F rfl rfl K xK.f0 fun a p2 S F=>qlI isAgg2 F rfl rfl H.q S fun a T F=>xP F rfl (fun w l=>oM bM F rfl rfl) fun a F=>qB isAgg41 F rfl rfl (H.qb 0 rfl) rfl fun a F=>qF (s':=1) kG F rfl rfl A xH.f1 fun a p3 U F=>qlS isAgg24 F rfl rfl H.q U fun a v5 V F=>xP F rfl (fun w l=>oM lX F rfl rfl) fun a F=>qB isAgg2 F rfl rfl (H.qb 0 rfl) rfl (fun a F=>?_);obtain⟨z3,W,d⟩:=xB d;refine qI underlying24 sizeOf66 F rfl rfl rfl V W fun a a1 X F=>qF (s':=1) mU F rfl rfl X oV.f0 fun a p4 Y F=>qlI isAgg2 F rfl rfl H.q Y (fun a Z F=>?_);obtain⟨E,c4,d⟩:=xB d;refine fX F rfl call81 rfl (fun w w' h l=>l.through h) (fun w l=>nI E c4 w aA T ((H.go l).a N) Z) fun a F=>xP F rfl (fun w l=>lD F rfl) fun a F=>xP F rfl (fun w l=>cG F rfl rfl) fun a F=>xP F rfl (fun w l=>vK F rfl) fun a F=>kZ fun w H=>xG ?_;exact⟨(!E),(zH d),F.su,(H.s [] rfl rfl)⟩
 rintro a w ⟨p,rfl,F,H⟩
 have d:=xW G;refine xG (xR (xT F rfl (oE F rfl) ?_));obtain rfl:=oj d;exact⟨rfl,H.bl⟩
def bB (c:List Con) (d:Con→Option Bool):Option Int:=
 zR (σ:=Unit) (
  qT (σ:=Unit) (ρ:=Int) (fun (e:Nat) (f:Con) (s:Unit)=>
    match s with
    | _=>
    xZ (d f) fun h=>
    if h then
     some (.ret ((e:Int)))
    else
     some (.go ())) c 0 ()) fun _=>
 some ((-1))
theorem lA {B:Nat→Prop} {h:List Con} {D:Con→Option Bool} (r:Int) (d:bB h D=some r) {t:Value} {j:FuncId} {p:List Value} (f:World) (S:∀ c,B c→c<f.heap.size) (E:Bo B f (Sl 2 oR) t h) (M:∀ args w,(callFunc j args).run Tryz.prog w= .ok (.enter j args) w) (N:∀ (G:Con) (r:Bool),D G=some r→∀ W,Below f.heap.size f W→∀ (I:Value),Bo (All W) W (kK 2 oR) I G→Calls Tryz.prog j ([I]++p:List Value).toArray W (kL (.bool r) W)):Calls Tryz.prog 113 #[t,.func (.func j) #[] p.toArray] f (fS r f):=by
 unfold bB at d
 refine xX (L:=[(0,t),(1,.func (.func j) #[] p.toArray)]) func113 rfl rfl rfl (sc rfl (sc rfl sn)) (fun a F=>?_);have H:=Sep.start S;refine xV (xA 1 F rfl fun a F=>xJ (xF (xV (xA 1 F rfl fun a F=>oL underlying27 F rfl rfl E fun a J F=>xA 1 F rfl fun a F=>?_))));refine xJ ?_;obtain⟨K,d,A⟩:=xM d;refine oH (fun a w=>K= .nx ()∧Sk a 19 []∧Sep [] B f w []) ?_ ?_
 ·
  refine oJ ?_;obtain⟨O,P,d⟩:=qP d;refine qK (fun g a w=>∃ (n:Nat) (i:List Con),(n≤h.length∧h.drop n=i)∧i.length=g∧qT O i n ()=some K∧Sk a 19 [(8,xC (n:Int)),(0,t),(1,.func (.func j) #[] p.toArray),(7,xC (h.length:Int))]∧Sep [] B f w []) h.length ?_ ?_
  ·
   exact⟨0,h,⟨Nat.zero_le _,rfl⟩,rfl,d,F.su,H⟩
  intro g2 a w ⟨n,i,e,Q,d,F,H⟩
  cases i with
  | nil=>
   replace d:=qO d;have T:=qQ e.1 e.2;have y:=vS T;refine xV (xA 1 F rfl fun a F=>xJ (xF (zD F rfl y (qJ (qM (qM (zQ ?_)))))));refine xG ?_;exact⟨(zH d),F.sub sn,H⟩
  | cons x2 i=>
   subst Q;replace e:=oZ e.2;have U:=qX e.2.1;obtain⟨a1,d,C⟩:=qG d;rw[P] at d;have y:=vE e.1;refine xV (xA 1 F rfl fun a F=>xJ (xF (zC F rfl y (xN (xG (xF ?_))))));have V:=gP (Nat.le_of_lt e.1) J;have X:=zU e.1 J;refine oJ (xV (xA 2 F rfl fun a F=>vG (xA 2 F rfl fun a F=>?_)));refine xA 1 F rfl fun a F=>oI underlying27 sizeOf69 F rfl rfl rfl E U fun a p1 R F=>olA isAgg69 sizeOf69 F rfl rfl H.sm R (fun a v1 Y F=>?_);obtain⟨Z,c1,d⟩:=xB d;refine oKV F rfl rfl M rfl H (N _ Z c1 _ H.bl _ (H.a Y)) fun a w H F=>xJ (qV F rfl (fun x=>?_) (fun x=>?_))
   ·
    replace d:=vX x d;refine xV (xA 2 F rfl fun a F=>xJ (xR (vT (oQ (oQ ?_)))));replace d:=kD d C;refine vT (oQ ?_);replace d:=zZ d A;refine oQ (xT F rfl (oE F rfl) ?_);obtain rfl:=oj d;exact⟨⟨rfl,H.bl⟩,V⟩
   replace d:=vW x d;refine xN (vH (xG (xY (vP F rfl rfl rfl X fun a F=>xA 1 F rfl fun a F=>xJ ?_))));replace d:=vU d C;exact⟨_,Nat.lt_succ_self _,n+1,i,⟨e.1,e.2.2⟩,rfl,d,F.su,H⟩
 rintro a w ⟨rfl,F,H⟩
 have d:=xW A;refine xG (xV (xA 1 F rfl fun a F=>xJ (xR (xT F rfl (oE F rfl) ?_))));obtain rfl:=oj d;exact⟨⟨rfl,H.bl⟩,(show xS (-1) by decide)⟩
def kO (c:List Con) (d:Con→Option Bool):Option Bool:=
 xZ (bB c d) fun e=>
 some ((decide (0≤e)))
theorem iX {B:Nat→Prop} {p:List Con} {t:Con→Option Bool} (r:Bool) (f:kO p t=some r) {n:Value} {e:FuncId} {j:List Value} (d:World) (C:∀ c,B c→c<d.heap.size) (D:Bo B d (Sl 2 oR) n p) (y:∀ args w,(callFunc e args).run Tryz.prog w= .ok (.enter e args) w) (A:∀ (i:Con) (r:Bool),t i=some r→∀ W,Below d.heap.size d W→∀ (x:Value),Bo (All W) W (kK 2 oR) x i→Calls Tryz.prog e ([x]++j:List Value).toArray W (kL (.bool r) W)):Calls Tryz.prog 79 #[n,.func (.func e) #[] j.toArray] d (kL (.bool r) d):=by
 unfold kO at f
 refine xX (L:=[(0,n),(1,.func (.func e) #[] j.toArray)]) func79 rfl rfl rfl (sc rfl (sc rfl sn)) (fun a F=>?_);have H:=Sep.start C;refine xV (xA 1 F rfl fun a F=>vG (xA 2 F rfl fun a F=>?_));obtain⟨E,G,f⟩:=xB f;refine oKI F rfl call113 rfl H (lA E G _ aA (H.a D) y (fun i r h W I=>A i r h W (H.bl.trans (I.mono H.fr.size)))) fun a w H J F=>xA 2 F rfl fun a F=>xJ (xR (xT F rfl (oE F rfl) ?_));obtain rfl:=oj f;exact⟨rfl,H.bl⟩
def kT (d:Template) (c:Instance):Option Bool:=
 zR (σ:=Bool) (
  xZ (bK (Template.mk d.size d.rels)) fun f=>
  if f then  xZ (mH c.vars) fun h=>
   if h then  if (decide ((c.cons.length:Int)≤24)) then  xZ (kO c.cons (fun i=>dR i (Template.mk d.size d.rels) (Instance.mk c.vars c.cons))) fun j=>
     some (.nx (!j)) else  some (.nx false) else  some (.nx false) else  some (.nx false)) fun e=>
 some e
theorem dL {B:Nat→Prop} {A:Template} {p:Instance} (r:Bool) (d:kT A p=some r) {t:Value} {x:Value} (e:World) (N:∀ c,B c→c<e.heap.size) (O:Bo B e (kK 2 xH) t A) (P:Bo B e (kK 2 xK) x p):Calls Tryz.prog 34 #[t,x] e (kL (.bool r) e):=by
 unfold kT at d
 refine xX (L:=[(0,t),(1,x)]) func34 rfl rfl rfl (sc rfl (sc rfl sn)) (fun a F=>?_);have H:=Sep.start N;refine xV ?_;obtain⟨V,rfl,C,D⟩:=xH.o O;refine oX F rfl rfl rfl H (fun a w X H F=>?_);obtain⟨U,rfl,E,y⟩:=xK.o P;refine oX F rfl rfl rfl H fun a w Y H F=>xA 1 F rfl fun a F=>xJ (xF ?_);obtain⟨Q,d,M⟩:=xM d;refine oH (fun a w=>∃ (n:Bool),Q= .nx n∧Sk a 25 [(4,.bool n)]∧Sep [] B e w []) ?_ ?_
 ·
  refine xY (dJ isAgg26 sizeOf26 F rfl rfl (H.b 1 rfl) rfl rfl (fun a F=>?_));obtain⟨G,R,d⟩:=xB d;refine oK F rfl call77 rfl H (pU G R _ aA (xH.m C (H.a D))) fun a w H F=>xA 1 F rfl fun a F=>?_
  rcases vR G with f | f
  ·
   replace d:=vX f d;have F:=F.eb 7 rfl f;refine oD eE F rfl rfl rfl fun a F=>oB isAgg2 F rfl rfl (H.b 0 rfl) rfl (fun a F=>?_);obtain⟨I,S,d⟩:=xB d;refine oK F rfl call78 rfl H (xAz I S _ aA E) fun a w H F=>xA 2 F rfl fun a F=>?_
   rcases vR I with i | i
   ·
    replace d:=vX i d;have F:=F.eb 12 rfl i;refine oD zT F rfl rfl rfl fun a F=>oB isAgg27 F rfl rfl (H.b 0 rfl) rfl fun a F=>oL underlying27 F rfl rfl y fun a Z F=>xA 3 F rfl fun a F=>?_
    rcases vR (decide ((p.cons.length:Int)≤24)) with j | j
    ·
     replace d:=vX j d;have F:=F.eb 18 rfl j;refine oD zT F rfl rfl rfl fun a F=>oB isAgg27 F rfl rfl (H.b 0 rfl) rfl fun a F=>mW F rfl rfl rfl (fun a F=>?_);obtain⟨J,T,d⟩:=xB d;refine oK F rfl call79 rfl H (iX J T _ aA (H.a y) call80 (fun a0 r h W K u0 f0=>nT r h W aA f0 ((xH.b (H.g 1 rfl).bk C (H.a D)).w K) ((xK.b (H.g 0 rfl).bk E (H.a y)).w K))) fun a w H F=>xA 3 F rfl fun a F=>xJ ?_;exact⟨(!J),(zH d),F.su,(H.s [] rfl rfl)⟩
    replace d:=vW j d;have F:=F.eb 18 rfl j;refine xA 7 F rfl fun a F=>xJ ?_;exact⟨false,(zH d),F.su,(H.s [] rfl rfl)⟩
   replace d:=vW i d;have F:=F.eb 12 rfl i;refine xA 11 F rfl fun a F=>?_;refine xA 2 F rfl fun a F=>xJ ?_;exact⟨false,(zH d),F.su,(H.s [] rfl rfl)⟩
  replace d:=vW f d;have F:=F.eb 7 rfl f;refine xA 11 F rfl fun a F=>?_;refine xA 7 F rfl fun a F=>xJ ?_;exact⟨false,(zH d),F.su,(H.s [] rfl rfl)⟩
 rintro a w ⟨n,rfl,F,H⟩
 have d:=xW M;refine xG (xR (xT F rfl (oE F rfl) ?_));obtain rfl:=oj d;exact⟨rfl,H.bl⟩
def bO (c:Template) (d:Instance) (e:Int):Option Int:=
 xZ (kT (Template.mk c.size c.rels) (Instance.mk d.vars d.cons)) fun f=>
 if (!f) then
  some 1
 else
  xZ (bZ e 0 5000) fun h=>
  if (!h) then
   some 2
  else
   some 0
theorem hU {B:Nat→Prop} {p:Template} {t:Instance} {f:Int} (r:Int) (d:bO p t f=some r) {j:Value} {n:Value} (e:World) (y:∀ c,B c→c<e.heap.size) (A:Bo B e (kK 2 xH) j p) (C:Bo B e (kK 2 xK) n t) (x:xS f):Calls Tryz.prog 26 #[j,n,xC f] e (fS r e):=by
 unfold bO at d
 refine xX (L:=[(0,j),(1,n),(2,xC f)]) func26 rfl rfl rfl (sc rfl (sc rfl (sc rfl sn))) (fun a F=>?_);have H:=Sep.start y;refine xV ?_;obtain⟨P,rfl,D,E⟩:=xH.o A;refine oX F rfl rfl rfl H (fun a w Q H F=>?_);obtain⟨O,rfl,G,I⟩:=xK.o C;refine oX F rfl rfl rfl H fun a w R H F=>xA 1 F rfl fun a F=>xJ (xF (oJ (xV (dJ isAgg26 sizeOf26 F rfl rfl (H.b 1 rfl) rfl rfl fun a F=>dJ isAgg29 sizeOf29 F rfl rfl (H.b 0 rfl) rfl rfl (fun a F=>?_)))));obtain⟨J,K,d⟩:=xB d;refine oK F rfl call34 rfl H (dL J K _ aA (xH.m D (H.a E)) (xK.m G (H.a I))) fun a w H F=>xA 2 F rfl fun a F=>xJ (qV F rfl (fun h=>?_) (fun h=>?_))
 ·
  replace d:=vX h d;refine xV (xA 1 F rfl fun a F=>xJ (xR (vT (oQ (xT F rfl (oE F rfl) ?_)))));obtain rfl:=oj d;exact⟨⟨rfl,H.bl⟩,(show xS (1) by decide)⟩
 replace d:=vW h d;refine xV (xA 1 F rfl fun a F=>?_);obtain⟨M,N,d⟩:=xB d;refine oK F rfl call68 rfl H (eJ M N _ aA x (show xS (0) by decide) (show xS (5000) by decide)) fun a w H F=>xA 2 F rfl fun a F=>xJ (qV F rfl (fun i=>?_) (fun i=>?_))
 ·
  replace d:=vX i d;refine xV (xA 1 F rfl fun a F=>xJ (xR (vT (oQ (xT F rfl (oE F rfl) ?_)))));obtain rfl:=oj d;exact⟨⟨rfl,H.bl⟩,(show xS (2) by decide)⟩
 replace d:=vW i d;refine xN (vH (xG (xV (xA 1 F rfl fun a F=>xJ (xR (xT F rfl (oE F rfl) ?_))))));obtain rfl:=oj d;exact⟨⟨rfl,H.bl⟩,(show xS (0) by decide)⟩
def fB (c:Literal) (d:Instance) (e:Template):Option Bool:=
 zR (σ:=Bool) (
  xZ (ck (d.vars - 1)) fun f=>
  xZ (bZ c.var 0 f) fun h=>
  if (!h) then  some (.nx true) else  xZ (dU e.size c.value) fun i=>
   some (.nx (!i))) fun j=>
 some j
theorem rE {B:Nat→Prop} {p:Literal} {t:Instance} {x:Template} (r:Bool) (d:fB p t x=some r) {h:Value} {i:Value} {j:Value} (e:World) (G:∀ c,B c→c<e.heap.size) (I:Bo B e (kK 2 xU) h p) (J:Bo B e (Pt 2 xK) i t) (K:Bo B e (Pt 2 xH) j x):Calls Tryz.prog 70 #[h,i,j] e (kL (.bool r) e):=by
 unfold fB at d
 refine xX (L:=[(0,h),(1,i),(2,j)]) func70 rfl rfl rfl (sc rfl (sc rfl (sc rfl sn))) (fun a F=>?_);have H:=Sep.start G;refine xV ?_;obtain⟨rfl,M,N⟩:=xU.o I;refine oX F rfl rfl rfl H fun a w T H F=>xA 1 F rfl fun a F=>xJ (xF ?_);obtain⟨O,d,D⟩:=xM d;refine oH (fun a w=>∃ (n:Bool),O= .nx n∧Sk a 20 [(4,.bool n)]∧Sep [] B e w []) ?_ ?_
 ·
  refine xY (oD nW F rfl rfl rfl fun a F=>oB isAgg2 F rfl rfl (H.b 0 rfl) rfl fun a F=>oF (s':=1) eE F rfl rfl J xK.f0 fun a U E F=>olI isAgg2 F rfl rfl H.sm E (fun a V F=>?_));obtain⟨W,y,d⟩:=xB d;refine gM F rfl rfl rfl y (fun a F=>?_);obtain⟨A,P,d⟩:=xB d;refine oK F rfl call68 rfl H (eJ A P _ aA M (show xS (0) by decide) (kV y)) fun a w H F=>xA 2 F rfl fun a F=>?_
  rcases vR (!A) with f | f
  ·
   replace d:=vX f d;have F:=F.eb 12 rfl f;refine xA 8 F rfl fun a F=>xJ ?_;exact⟨true,(zH d),F.su,(H.s [] rfl rfl)⟩
  replace d:=vW f d;have F:=F.eb 12 rfl f;refine oF (s':=1) iD F rfl rfl K xH.f0 fun a X Q F=>olI isAgg2 F rfl rfl H.sm Q fun a R F=>oD pV F rfl rfl rfl fun a F=>oB isAgg2 F rfl rfl (H.b 0 rfl) rfl (fun a F=>?_);obtain⟨C,S,d⟩:=xB d;refine oK F rfl call71 rfl H (rA C S _ aA R N) fun a w H F=>xA 3 F rfl fun a F=>xJ ?_;exact⟨(!C),(zH d),F.su,(H.s [] rfl rfl)⟩
 rintro a w ⟨n,rfl,F,H⟩
 have d:=xW D;refine xG (xR (xT F rfl (oE F rfl) ?_));obtain rfl:=oj d;exact⟨rfl,H.bl⟩
def kS (c:List Literal) (d:Literal→Option Bool):Option Int:=
 zR (σ:=Unit) (
  qT (σ:=Unit) (ρ:=Int) (fun (e:Nat) (f:Literal) (s:Unit)=>
    match s with
    | _=>
    xZ (d f) fun h=>
    if h then
     some (.ret ((e:Int)))
    else
     some (.go ())) c 0 ()) fun _=>
 some ((-1))
theorem gO {B:Nat→Prop} {h:List Literal} {D:Literal→Option Bool} (r:Int) (d:kS h D=some r) {t:Value} {j:FuncId} {p:List Value} (f:World) (S:∀ c,B c→c<f.heap.size) (E:Bo B f (Sl 2 xU) t h) (M:∀ args w,(callFunc j args).run Tryz.prog w= .ok (.enter j args) w) (N:∀ (G:Literal) (r:Bool),D G=some r→∀ W,Below f.heap.size f W→∀ (I:Value),Bo (All W) W (kK 2 xU) I G→Calls Tryz.prog j ([I]++p:List Value).toArray W (kL (.bool r) W)):Calls Tryz.prog 105 #[t,.func (.func j) #[] p.toArray] f (fS r f):=by
 unfold kS at d
 refine xX (L:=[(0,t),(1,.func (.func j) #[] p.toArray)]) func105 rfl rfl rfl (sc rfl (sc rfl sn)) (fun a F=>?_);have H:=Sep.start S;refine xV (xA 1 F rfl fun a F=>xJ (xF (xV (xA 1 F rfl fun a F=>oL underlying32 F rfl rfl E fun a J F=>xA 1 F rfl fun a F=>?_))));refine xJ ?_;obtain⟨K,d,A⟩:=xM d;refine oH (fun a w=>K= .nx ()∧Sk a 19 []∧Sep [] B f w []) ?_ ?_
 ·
  refine oJ ?_;obtain⟨O,P,d⟩:=qP d;refine qK (fun g a w=>∃ (n:Nat) (i:List Literal),(n≤h.length∧h.drop n=i)∧i.length=g∧qT O i n ()=some K∧Sk a 19 [(8,xC (n:Int)),(0,t),(1,.func (.func j) #[] p.toArray),(7,xC (h.length:Int))]∧Sep [] B f w []) h.length ?_ ?_
  ·
   exact⟨0,h,⟨Nat.zero_le _,rfl⟩,rfl,d,F.su,H⟩
  intro g2 a w ⟨n,i,e,Q,d,F,H⟩
  cases i with
  | nil=>
   replace d:=qO d;have T:=qQ e.1 e.2;have y:=vS T;refine xV (xA 1 F rfl fun a F=>xJ (xF (zD F rfl y (qJ (qM (qM (zQ ?_)))))));refine xG ?_;exact⟨(zH d),F.sub sn,H⟩
  | cons x2 i=>
   subst Q;replace e:=oZ e.2;have U:=qX e.2.1;obtain⟨a1,d,C⟩:=qG d;rw[P] at d;have y:=vE e.1;refine xV (xA 1 F rfl fun a F=>xJ (xF (zC F rfl y (xN (xG (xF ?_))))));have V:=gP (Nat.le_of_lt e.1) J;have X:=zU e.1 J;refine oJ (xV (xA 2 F rfl fun a F=>vG (xA 2 F rfl fun a F=>?_)));refine xA 1 F rfl fun a F=>oI underlying32 sizeOf35 F rfl rfl rfl E U fun a p1 R F=>olA isAgg35 sizeOf35 F rfl rfl H.sm R (fun a v1 Y F=>?_);obtain⟨Z,c1,d⟩:=xB d;refine oKV F rfl rfl M rfl H (N _ Z c1 _ H.bl _ (H.a Y)) fun a w H F=>xJ (qV F rfl (fun x=>?_) (fun x=>?_))
   ·
    replace d:=vX x d;refine xV (xA 2 F rfl fun a F=>xJ (xR (vT (oQ (oQ ?_)))));replace d:=kD d C;refine vT (oQ ?_);replace d:=zZ d A;refine oQ (xT F rfl (oE F rfl) ?_);obtain rfl:=oj d;exact⟨⟨rfl,H.bl⟩,V⟩
   replace d:=vW x d;refine xN (vH (xG (xY (vP F rfl rfl rfl X fun a F=>xA 1 F rfl fun a F=>xJ ?_))));replace d:=vU d C;exact⟨_,Nat.lt_succ_self _,n+1,i,⟨e.1,e.2.2⟩,rfl,d,F.su,H⟩
 rintro a w ⟨rfl,F,H⟩
 have d:=xW A;refine xG (xV (xA 1 F rfl fun a F=>xJ (xR (xT F rfl (oE F rfl) ?_))));obtain rfl:=oj d;exact⟨⟨rfl,H.bl⟩,(show xS (-1) by decide)⟩
def zL (c:List Literal) (d:Literal→Option Bool):Option Bool:=
 xZ (kS c d) fun e=>
 some ((decide (0≤e)))
theorem fU {B:Nat→Prop} {p:List Literal} {t:Literal→Option Bool} (r:Bool) (f:zL p t=some r) {n:Value} {e:FuncId} {j:List Value} (d:World) (C:∀ c,B c→c<d.heap.size) (D:Bo B d (Sl 2 xU) n p) (y:∀ args w,(callFunc e args).run Tryz.prog w= .ok (.enter e args) w) (A:∀ (i:Literal) (r:Bool),t i=some r→∀ W,Below d.heap.size d W→∀ (x:Value),Bo (All W) W (kK 2 xU) x i→Calls Tryz.prog e ([x]++j:List Value).toArray W (kL (.bool r) W)):Calls Tryz.prog 69 #[n,.func (.func e) #[] j.toArray] d (kL (.bool r) d):=by
 unfold zL at f
 refine xX (L:=[(0,n),(1,.func (.func e) #[] j.toArray)]) func69 rfl rfl rfl (sc rfl (sc rfl sn)) (fun a F=>?_);have H:=Sep.start C;refine xV (xA 1 F rfl fun a F=>vG (xA 2 F rfl fun a F=>?_));obtain⟨E,G,f⟩:=xB f;refine oKI F rfl call105 rfl H (gO E G _ aA (H.a D) y (fun i r h W I=>A i r h W (H.bl.trans (I.mono H.fr.size)))) fun a w H J F=>xA 2 F rfl fun a F=>xJ (xR (xT F rfl (oE F rfl) ?_));obtain rfl:=oj f;exact⟨rfl,H.bl⟩
def aR (c:Template) (d:Instance) (e:List Literal):Option Bool:=
 xZ (zL e (fun f=>fB f (Instance.mk d.vars d.cons) (Template.mk c.size c.rels))) fun h=>
 some ((!h))
theorem lS {B:Nat→Prop} {n:Template} {p:Instance} {t:List Literal} (r:Bool) (e:aR n p t=some r) {f:Value} {i:Value} {j:Value} (d:World) (y:∀ c,B c→c<d.heap.size) (A:Bo B d (kK 2 xH) f n) (C:Bo B d (kK 2 xK) i p) (D:Bo B d (Sl 2 xU) j t):Calls Tryz.prog 27 #[f,i,j] d (kL (.bool r) d):=by
 unfold aR at e
 refine xX (L:=[(0,f),(1,i),(2,j)]) func27 rfl rfl rfl (sc rfl (sc rfl (sc rfl sn))) (fun a F=>?_);have H:=Sep.start y;refine xV ?_;obtain⟨O,rfl,E,G⟩:=xH.o A;refine oX F rfl rfl rfl H (fun a w P H F=>?_);obtain⟨N,rfl,I,J⟩:=xK.o C;refine oX F rfl rfl rfl H fun a w Q H F=>xA 1 F rfl fun a F=>vG (xA 1 F rfl fun a F=>mW F rfl rfl rfl (fun a F=>?_));obtain⟨K,M,e⟩:=xB e;refine oK F rfl call69 rfl H (fU K M _ aA (H.a D) call70 (fun R r h W x S f0=>rE r h W aA f0 ((xK.b (H.g 0 rfl).bk I (H.a J)).w x) ((xH.b (H.g 1 rfl).bk E (H.a G)).w x))) fun a w H F=>xA 2 F rfl fun a F=>xJ (xR (xT F rfl (oE F rfl) ?_));obtain rfl:=oj e;exact⟨rfl,H.bl⟩
def fN (c d:Int):Option (List Int):=
 zR (σ:=(List Int)) (
  aS (σ:=(List Int)) (ρ:=(List Int)) (fun (e:Nat) (f:(List Int))=>
   xZ (ck (c+(e:Int))) fun h=>
   xZ (ap f ([h])) fun i=>
   some (.go i)) d.toNat 0 []) fun j=>
 some j
theorem uX {B:Nat→Prop} {f e:Int} (r:(List Int)) (d:fN f e=some r)  (h:World) (O:∀ c,B c→c<h.heap.size) (W:xS f) (C:xS e):Calls Tryz.prog 49 #[xC f,xC e] h (Gv (fun v w'=>∃ (D:Value),v=D∧Sep [] B h w' [rl 1 xI 2 D r])):=by
 unfold fN at d
 refine xX (L:=[(0,xC f),(1,xC e)]) func49 rfl rfl rfl (sc rfl (sc rfl sn)) (fun a F=>?_);have H:=Sep.start O;refine xV (xA 1 F rfl fun a F=>vG (oR0 (R:=xI) underlying41 sizeOf2 F rfl H fun a w P H F=>xA 1 F rfl fun a F=>xJ ?_));refine xF (xV (xA 2 F rfl fun a F=>xJ ?_));obtain⟨E,d,J⟩:=xM d;refine oH (fun a w=>∃ (x:List Int) (p:Value),E= .nx x∧Sk a 20 [(5,p)]∧Sep [] B h w [rl 1 xI 2 p x]) ?_ ?_
 ·
  refine oJ ?_;obtain⟨K,M,d⟩:=dP d;refine qK (fun g a w=>∃ (i:Nat) (t:List Int) (j:Value),i+g=e.toNat∧aS K g i t=some E∧Sk a 20 [(9,xC (i:Int)),(0,xC f),(5,j),(8,xC e)]∧Sep [] B h w [rl 1 xI 2 j t]) e.toNat ?_ ?_
  ·
   exact⟨0,[],P,(Nat.zero_add _),d,F.su,H⟩
  intro G a w ⟨i,t,j,n,d,F,H⟩
  cases G with
  | zero=>
   replace d:=cC d;have A:=gH n;refine xV (xA 1 F rfl fun a F=>xJ (xF (zD F rfl A (qJ (qM (qM (zQ ?_)))))));refine xG ?_;exact⟨t,j,(zH d),F.su,H⟩
  | succ G=>
   obtain⟨X,d,N⟩:=cI d;rw[M] at d;have A:=eR n;refine xV (xA 1 F rfl fun a F=>xJ (xF (zC F rfl A (xN (xG (xF ?_))))));have Y:=uA n C;have Q:=jB n C;refine oJ (xV (xA 2 F rfl fun a F=>xJ (xY (xA 3 F rfl fun a F=>?_))));obtain⟨S,I,d⟩:=xB d;refine cX F rfl rfl rfl I fun a F=>cM (R:=xI) (y:=S) underlying41 sizeOf2 zeroValue2 rfl rfl F rfl rfl H (Eo.int (kV I)) (fun a w Z H F=>?_);obtain⟨T,U,d⟩:=xB d;refine oPL (sz:=1) (R:=xI) (z:=(xC 0)) (bytes:=8) underlying41 (by kernel_rfl) rfl rfl F rfl rfl rfl (H.s [1,0] rfl rfl) U fun a w V H F=>xA 1 F rfl fun a F=>qU (vH (xG (xY (vP F rfl rfl rfl Q fun a F=>xA 1 F rfl fun a F=>xJ ?_))));replace d:=vU d N;exact⟨_,Nat.lt_succ_self _,i+1,T,V,(by omega),d,F.su,H⟩
 rintro a w ⟨x,p,rfl,F,H⟩
 have d:=xW J;refine xG (xV (xA 2 F rfl fun a F=>xJ (xR (xT F rfl (oE F rfl) ?_))));obtain rfl:=oj d;exact⟨_,rfl,p,rfl,H⟩
def kX (c:Template) (d:Instance):Option (List (List Int)):=
 zR (σ:=(List (List Int))) (
  aS (σ:=(List (List Int))) (ρ:=(List (List Int))) (fun(j:Nat) (e:(List (List Int)))=>
   xZ (fN 0 c.size) fun f=>
   xZ (ap e ([f])) fun h=>
   some (.go h)) d.vars.toNat 0 []) fun i=>
 some i
theorem iC {B:Nat→Prop} {t:Template} {f:Instance} (r:(List (List Int))) (d:kX t f=some r) {x:Value} {A:Value} (e:World) (T:∀ c,B c→c<e.heap.size) (U:Bo B e (kK 2 xH) x t) (V:Bo B e (kK 2 xK) A f):Calls Tryz.prog 72 #[x,A] e (Gv (fun v w'=>∃ (E:Value),v=E∧Sep [] B e w' [rl 1 (vQ 1 xI) 41 E r])):=by
 unfold kX at d
 refine xX (L:=[(0,x),(1,A)]) func72 rfl rfl rfl (sc rfl (sc rfl sn)) (fun a F=>?_);have H:=Sep.start T;refine xV ?_;obtain⟨W,rfl,X,h1⟩:=xH.o U;refine oX F rfl rfl rfl H (fun a w G H F=>?_);obtain⟨a5,rfl,I,h2⟩:=xK.o V;refine oX F rfl rfl rfl H fun a w b2 H F=>xA 1 F rfl fun a F=>vG (oR0 (R:=(vQ 1 xI)) underlying38 sizeOf41 F rfl H fun a w Y H F=>xA 1 F rfl fun a F=>xJ (xF ?_));refine xV (oD eE F rfl rfl rfl fun a F=>oB isAgg2 F rfl rfl (H.b 1 rfl) rfl fun a F=>xA 1 F rfl fun a F=>xJ ?_);obtain⟨J,d,N⟩:=xM d;refine oH (fun a w=>∃ (C:List (List Int)) (j:Value),J= .nx C∧Sk a 19 [(5,j)]∧Sep [] B e w [rl 1 (vQ 1 xI) 41 j C]) ?_ ?_
 ·
  refine oJ ?_;obtain⟨O,P,d⟩:=dP d;refine qK (fun g a w=>∃ (h:Nat) (n:List (List Int)) (p:Value),h+g=f.vars.toNat∧aS O g h n=some J∧Sk a 19 [(9,xC (h:Int)),(2,oO G),(5,p),(8,xC f.vars)]∧Sep [] B e w [rl 1 (vQ 1 xI) 41 p n,bx G [xC t.size,W] 26]) f.vars.toNat ?_ ?_
  ·
   exact⟨0,[],Y,(Nat.zero_add _),d,F.su,(H.s [0,2] rfl rfl)⟩
  intro K a w ⟨h,n,p,i,d,F,H⟩
  cases K with
  | zero=>
   replace d:=cC d;have D:=gH i;refine xV (xA 1 F rfl fun a F=>xJ (xF (zD F rfl D (qJ (qM (qM (zQ ?_)))))));refine xG ?_;exact⟨n,p,(zH d),F.su,(H.s [0] rfl rfl)⟩
  | succ K=>
   obtain⟨a6,d,Q⟩:=cI d;rw[P] at d;have D:=eR i;refine xV (xA 1 F rfl fun a F=>xJ (xF (zC F rfl D (xN (xG (xF ?_))))));have j1:=uA i I;have Z:=jB i I;refine oJ (xY (xA 1 F rfl fun a F=>oD iD F rfl rfl rfl fun a F=>oB isAgg2 F rfl rfl (H.b 1 rfl) rfl (fun a F=>?_)));obtain⟨M,c1,d⟩:=xB d;refine oG F rfl call49 rfl (uX M c1 _ aA (show xS (0) by decide) X) (fun a vv w ⟨v6,a7,S⟩ F=>?_);subst vv;have H:=H.r1 S n0;have H:=H.os;refine eZ (R:=(vQ 1 xI)) (y:=M) underlying38 sizeOf41 zeroValue41 rfl rfl F rfl rfl H El.sl (fun a w v7 H F=>?_);obtain⟨z2,c2,d⟩:=xB d;refine oPL (sz:=1) (R:=(vQ 1 xI)) (z:=(qD)) (bytes:=24) underlying38 (by kernel_rfl) rfl rfl F rfl rfl rfl (H.s [1,0,2] rfl rfl) c2 fun a w v8 H F=>xA 1 F rfl fun a F=>qU (vH (xG (xY (vP F rfl rfl rfl Z fun a F=>xA 1 F rfl fun a F=>xJ ?_))));replace d:=vU d Q;exact⟨_,Nat.lt_succ_self _,h+1,z2,v8,(by omega),d,F.su,H⟩
 rintro a w ⟨C,j,rfl,F,H⟩
 have d:=xW N;refine xG (xV (xA 2 F rfl fun a F=>xJ (xR (xT F rfl (oE F rfl) ?_))));obtain rfl:=oj d;exact⟨_,rfl,j,rfl,H⟩
def aZ (c:List Int) (d:Int):Option Int:=
 zR (σ:=Unit) (
  qT (σ:=Unit) (ρ:=Int) (fun (e:Nat) (f:Int) (s:Unit)=>
    match s with
    | _=>
    if (d==f) then
     some (.ret ((e:Int)))
    else
     some (.go ())) c 0 ()) fun _=>
 some ((-1))
theorem jX {B:Nat→Prop} {f:List Int} {n:Int} (r:Int) (d:aZ f n=some r) {p:Value} (i:World) (K:∀ c,B c→c<i.heap.size) (D:Bo B i (Sl 1 xI) p f) (R:xS n):Calls Tryz.prog 106 #[p,xC n] i (fS r i):=by
 unfold aZ at d
 refine xX (L:=[(0,p),(1,xC n)]) func106 rfl rfl rfl (sc rfl (sc rfl sn)) (fun a F=>?_);have H:=Sep.start K;refine xV (xA 1 F rfl fun a F=>xJ (xF (xV (xA 1 F rfl fun a F=>oL underlying41 F rfl rfl D fun a E F=>xA 1 F rfl fun a F=>?_))));refine xJ ?_;obtain⟨y,d,A⟩:=xM d;refine oH (fun a w=>y= .nx ()∧Sk a 19 []∧Sep [] B i w []) ?_ ?_
 ·
  refine oJ ?_;obtain⟨G,I,d⟩:=qP d;refine qK (fun g a w=>∃ (j:Nat) (h:List Int),(j≤f.length∧f.drop j=h)∧h.length=g∧qT G h j ()=some y∧Sk a 19 [(8,xC (j:Int)),(0,p),(1,xC n),(7,xC (f.length:Int))]∧Sep [] B i w []) f.length ?_ ?_
  ·
   exact⟨0,f,⟨Nat.zero_le _,rfl⟩,rfl,d,F.su,H⟩
  intro T a w ⟨j,h,e,J,d,F,H⟩
  cases h with
  | nil=>
   replace d:=qO d;have M:=qQ e.1 e.2;have x:=vS M;refine xV (xA 1 F rfl fun a F=>xJ (xF (zD F rfl x (qJ (qM (qM (zQ ?_)))))));refine xG ?_;exact⟨(zH d),F.sub sn,H⟩
  | cons U h=>
   subst J;replace e:=oZ e.2;have N:=qX e.2.1;obtain⟨S,d,C⟩:=qG d;rw[I] at d;have x:=vE e.1;refine xV (xA 1 F rfl fun a F=>xJ (xF (zC F rfl x (xN (xG (xF ?_))))));have O:=gP (Nat.le_of_lt e.1) E;have P:=zU e.1 E;refine oJ (xV (xA 2 F rfl fun a F=>vG (xA 2 F rfl fun a F=>?_)));refine xA 1 F rfl fun a F=>oI underlying41 sizeOf2 F rfl rfl rfl D N fun a V Q F=>olI isAgg2 F rfl rfl H.sm Q fun a W F=>xA 1 F rfl fun a F=>xJ (qV F rfl (fun t=>?_) (fun t=>?_))
   ·
    replace d:=vX t d;refine xV (xA 2 F rfl fun a F=>xJ (xR (vT (oQ (oQ ?_)))));replace d:=kD d C;refine vT (oQ ?_);replace d:=zZ d A;refine oQ (xT F rfl (oE F rfl) ?_);obtain rfl:=oj d;exact⟨⟨rfl,H.bl⟩,O⟩
   replace d:=vW t d;refine xN (vH (xG (xY (vP F rfl rfl rfl P fun a F=>xA 1 F rfl fun a F=>xJ ?_))));replace d:=vU d C;exact⟨_,Nat.lt_succ_self _,j+1,h,⟨e.1,e.2.2⟩,rfl,d,F.su,H⟩
 rintro a w ⟨rfl,F,H⟩
 have d:=xW A;refine xG (xV (xA 1 F rfl fun a F=>xJ (xR (xT F rfl (oE F rfl) ?_))));obtain rfl:=oj d;exact⟨⟨rfl,H.bl⟩,(show xS (-1) by decide)⟩
def zB (c:List Int) (d:Int):Option Bool:=
 xZ (aZ c d) fun e=>
 some ((decide (0≤e)))
theorem eK {B:Nat→Prop} {i:List Int} {d:Int} (r:Bool) (e:zB i d=some r) {h:Value} (f:World) (n:∀ c,B c→c<f.heap.size) (p:Bo B f (Sl 1 xI) h i) (j:xS d):Calls Tryz.prog 73 #[h,xC d] f (kL (.bool r) f):=by
 unfold zB at e
 refine xX (L:=[(0,h),(1,xC d)]) func73 rfl rfl rfl (sc rfl (sc rfl sn)) (fun a F=>?_);have H:=Sep.start n;refine xV (xA 1 F rfl fun a F=>vG (xA 2 F rfl fun a F=>?_));obtain⟨t,x,e⟩:=xB e;refine oKI F rfl call106 rfl H (jX t x _ aA (H.a p) j) fun a w H y F=>xA 2 F rfl fun a F=>xJ (xR (xT F rfl (oE F rfl) ?_));obtain rfl:=oj e;exact⟨rfl,H.bl⟩
def zJ (c:List (List Int)) (d:(List Int)→Option Bool):Option Int:=
 zR (σ:=Unit) (
  qT (σ:=Unit) (ρ:=Int) (fun (e:Nat) (f:(List Int)) (s:Unit)=>
    match s with
    | _=>
    xZ (d f) fun h=>
    if h then
     some (.ret ((e:Int)))
    else
     some (.go ())) c 0 ()) fun _=>
 some ((-1))
theorem cT {B:Nat→Prop} {h:List (List Int)} {D:(List Int)→Option Bool} (r:Int) (d:zJ h D=some r) {t:Value} {j:FuncId} {p:List Value} (f:World) (S:∀ c,B c→c<f.heap.size) (E:Bo B f (Sl 1 (vQ 1 xI)) t h) (M:∀ args w,(callFunc j args).run Tryz.prog w= .ok (.enter j args) w) (N:∀ (G:List Int) (r:Bool),D G=some r→∀ W,Below f.heap.size f W→∀ (I:Value),Bo (All W) W (Sl 1 xI) I G→Calls Tryz.prog j ([I]++p:List Value).toArray W (kL (.bool r) W)):Calls Tryz.prog 136 #[t,.func (.func j) #[] p.toArray] f (fS r f):=by
 unfold zJ at d
 refine xX (L:=[(0,t),(1,.func (.func j) #[] p.toArray)]) func136 rfl rfl rfl (sc rfl (sc rfl sn)) (fun a F=>?_);have H:=Sep.start S;refine xV (xA 1 F rfl fun a F=>xJ (xF (xV (xA 1 F rfl fun a F=>oL underlying38 F rfl rfl E fun a J F=>xA 1 F rfl fun a F=>?_))));refine xJ ?_;obtain⟨K,d,A⟩:=xM d;refine oH (fun a w=>K= .nx ()∧Sk a 19 []∧Sep [] B f w []) ?_ ?_
 ·
  refine oJ ?_;obtain⟨O,P,d⟩:=qP d;refine qK (fun g a w=>∃ (n:Nat) (i:List (List Int)),(n≤h.length∧h.drop n=i)∧i.length=g∧qT O i n ()=some K∧Sk a 19 [(8,xC (n:Int)),(0,t),(1,.func (.func j) #[] p.toArray),(7,xC (h.length:Int))]∧Sep [] B f w []) h.length ?_ ?_
  ·
   exact⟨0,h,⟨Nat.zero_le _,rfl⟩,rfl,d,F.su,H⟩
  intro g2 a w ⟨n,i,e,Q,d,F,H⟩
  cases i with
  | nil=>
   replace d:=qO d;have T:=qQ e.1 e.2;have y:=vS T;refine xV (xA 1 F rfl fun a F=>xJ (xF (zD F rfl y (qJ (qM (qM (zQ ?_)))))));refine xG ?_;exact⟨(zH d),F.sub sn,H⟩
  | cons x2 i=>
   subst Q;replace e:=oZ e.2;have U:=qX e.2.1;obtain⟨a1,d,C⟩:=qG d;rw[P] at d;have y:=vE e.1;refine xV (xA 1 F rfl fun a F=>xJ (xF (zC F rfl y (xN (xG (xF ?_))))));have V:=gP (Nat.le_of_lt e.1) J;have X:=zU e.1 J;refine oJ (xV (xA 2 F rfl fun a F=>vG (xA 2 F rfl fun a F=>?_)));refine xA 1 F rfl fun a F=>oI underlying38 sizeOf41 F rfl rfl rfl E U fun a p1 R F=>olS isAgg41 F rfl rfl H.sm R (fun a v1 Y F=>?_);obtain⟨Z,c1,d⟩:=xB d;refine oKV F rfl rfl M rfl H (N _ Z c1 _ H.bl _ (H.a Y)) fun a w H F=>xJ (qV F rfl (fun x=>?_) (fun x=>?_))
   ·
    replace d:=vX x d;refine xV (xA 2 F rfl fun a F=>xJ (xR (vT (oQ (oQ ?_)))));replace d:=kD d C;refine vT (oQ ?_);replace d:=zZ d A;refine oQ (xT F rfl (oE F rfl) ?_);obtain rfl:=oj d;exact⟨⟨rfl,H.bl⟩,V⟩
   replace d:=vW x d;refine xN (vH (xG (xY (vP F rfl rfl rfl X fun a F=>xA 1 F rfl fun a F=>xJ ?_))));replace d:=vU d C;exact⟨_,Nat.lt_succ_self _,n+1,i,⟨e.1,e.2.2⟩,rfl,d,F.su,H⟩
 rintro a w ⟨rfl,F,H⟩
 have d:=xW A;refine xG (xV (xA 1 F rfl fun a F=>xJ (xR (xT F rfl (oE F rfl) ?_))));obtain rfl:=oj d;exact⟨⟨rfl,H.bl⟩,(show xS (-1) by decide)⟩
def zA (c:List (List Int)) (d:(List Int)→Option Bool):Option Bool:=
 xZ (zJ c d) fun e=>
 some ((decide (0≤e)))
theorem bT {B:Nat→Prop} {p:List (List Int)} {t:(List Int)→Option Bool} (r:Bool) (f:zA p t=some r) {n:Value} {e:FuncId} {j:List Value} (d:World) (C:∀ c,B c→c<d.heap.size) (D:Bo B d (Sl 1 (vQ 1 xI)) n p) (y:∀ args w,(callFunc e args).run Tryz.prog w= .ok (.enter e args) w) (A:∀ (i:List Int) (r:Bool),t i=some r→∀ W,Below d.heap.size d W→∀ (x:Value),Bo (All W) W (Sl 1 xI) x i→Calls Tryz.prog e ([x]++j:List Value).toArray W (kL (.bool r) W)):Calls Tryz.prog 151 #[n,.func (.func e) #[] j.toArray] d (kL (.bool r) d):=by
 unfold zA at f
 refine xX (L:=[(0,n),(1,.func (.func e) #[] j.toArray)]) func151 rfl rfl rfl (sc rfl (sc rfl sn)) (fun a F=>?_);have H:=Sep.start C;refine xV (xA 1 F rfl fun a F=>vG (xA 2 F rfl fun a F=>?_));obtain⟨E,G,f⟩:=xB f;refine oKI F rfl call136 rfl H (cT E G _ aA (H.a D) y (fun i r h W I=>A i r h W (H.bl.trans (I.mono H.fr.size)))) fun a w H J F=>xA 2 F rfl fun a F=>xJ (xR (xT F rfl (oE F rfl) ?_));obtain rfl:=oj f;exact⟨rfl,H.bl⟩
def fF (c:List Int):Option Bool:=
 some (((c.length:Int)==0))
theorem pW {B:Nat→Prop} {f:List Int} (r:Bool) (h:fF f=some r) {e:Value} (d:World) (i:∀ c,B c→c<d.heap.size) (j:Bo B d (Sl 1 xI) e f):Calls Tryz.prog 137 #[e] d (kL (.bool r) d):=by
 unfold fF at h
 refine xX (L:=[(0,e)]) func137 rfl rfl rfl (sc rfl sn) (fun a F=>?_);have H:=Sep.start i;refine xV (xA 1 F rfl fun a F=>vG (xA 1 F rfl fun a F=>oL underlying41 F rfl rfl j fun a n F=>xA 2 F rfl fun a F=>?_));refine xJ (xR (xT F rfl (oE F rfl) ?_));obtain rfl:=oj h;exact⟨rfl,H.bl⟩
def zV (c:(List (List Int))):Option Bool:=
 xZ (zA c (fun d=>fF d)) fun e=>
 some e
theorem iW {B:Nat→Prop} {i:(List (List Int))} (r:Bool) (d:zV i=some r) {f:Value} (e:World) (j:∀ c,B c→c<e.heap.size) (n:Bo B e (Pt 1 (vQ 1 (vQ 1 xI))) f i):Calls Tryz.prog 150 #[f] e (kL (.bool r) e):=by
 unfold zV at d
 refine xX (L:=[(0,f)]) func150 rfl rfl rfl (sc rfl sn) (fun a F=>?_);have H:=Sep.start j;refine xV (xA 1 F rfl fun a F=>vG (olS isAgg38 F rfl rfl H.sm n (fun a y p F=>?_)));obtain⟨t,x,d⟩:=xB d;refine oK F rfl call151 rfl H (bT t x _ aA (H.a p) call137 (fun A r h W C D f0=>pW r h W aA f0)) fun a w H F=>xA 1 F rfl fun a F=>xJ (xR (xT F rfl (oE F rfl) ?_));obtain rfl:=oj d;exact⟨rfl,H.bl⟩
def fK (c:Con) (d:List Int):Option Bool:=
 zR (σ:=Unit) (
  qT (σ:=Unit) (ρ:=Bool) (fun (e:Nat) (h:Int) (s:Unit)=>
    match s with
    | _=>
    zR (σ:=Unit) (
     aS (σ:=Unit) (ρ:=(Ctl (Unit) Bool)) (fun (f:Nat) (s:Unit)=>
       match s with
       | _=>
       zR (σ:=Bool) (
        xZ (ix c.scope (f:Int)) fun i=>
        if (i==h) then  xZ (ix d (f:Int)) fun j=>
         xZ (ix d (e:Int)) fun n=>
         some (.nx (j != n)) else  some (.nx false)) fun p=>
       if p then
        some (.ret (.ret false))
       else
        some (.go ())) (e:Int).toNat 0 ()) fun _=>
    some (.go ())) c.scope 0 ()) fun _=>
 some true
theorem tM {B:Nat→Prop} {f:Con} {Q:List Int} (r:Bool) (d:fK f Q=some r) {D:Value} {p:Value} (i:World) (hN:∀ c,B c→c<i.heap.size) (A0:Bo B i (kK 2 oR) D f) (R:Bo B i (Sl 1 xI) p Q):Calls Tryz.prog 176 #[D,p] i (kL (.bool r) i):=by
 unfold fK at d
 refine xX (L:=[(0,D),(1,p)]) func176 rfl rfl rfl (sc rfl (sc rfl sn)) (fun a F=>?_);have H:=Sep.start hN;refine xV ?_;obtain⟨j,rfl,i1,E⟩:=oR.o A0;refine oX F rfl rfl rfl H fun a w n H F=>xA 1 F rfl fun a F=>xJ (xF (xV (oD bM F rfl rfl rfl fun a F=>oB isAgg41 F rfl rfl (H.b 0 rfl) rfl fun a F=>oL underlying41 F rfl rfl E fun a S F=>xA 1 F rfl fun a F=>?_)));refine xJ ?_;obtain⟨T,d,M⟩:=xM d;refine oH (fun a w=>T= .nx ()∧Sk a 40 []∧Sep [] B i w []) ?_ ?_
 ·
  refine oJ ?_;obtain⟨X,Y,d⟩:=qP d;refine qK (fun g a w=>∃ (e:Nat) (t:List Int),(e≤f.scope.length∧f.scope.drop e=t)∧t.length=g∧qT X t e ()=some T∧Sk a 40 [(11,xC (e:Int)),(1,p),(2,oO n),(9,j),(10,xC (f.scope.length:Int))]∧Sep [] B i w [bx n [xC f.rel,j] 69]) f.scope.length ?_ ?_
  ·
   exact⟨0,f.scope,⟨Nat.zero_le _,rfl⟩,rfl,d,F.su,H⟩
  intro g1 a w ⟨e,t,h,Z,d,F,H⟩
  cases t with
  | nil=>
   replace d:=qO d;have q1:=qQ h.1 h.2;have G:=vS q1;refine xV (xA 1 F rfl fun a F=>xJ (xF (zD F rfl G (qJ (qM (qM (zQ ?_)))))));refine xG ?_;exact⟨(zH d),F.sub sn,(H.s [] rfl rfl)⟩
  | cons I t=>
   subst Z;replace h:=oZ h.2;have y1:=qX h.2.1;obtain⟨ak,d,N⟩:=qG d;rw[Y] at d;have G:=vE h.1;refine xV (xA 1 F rfl fun a F=>xJ (xF (zC F rfl G (xN (xG (xF ?_))))));have U:=gP (Nat.le_of_lt h.1) S;have m1:=zU h.1 S;refine oJ (xV (xA 1 F rfl fun a F=>oI underlying41 sizeOf2 F rfl rfl rfl E y1 fun a p1 h2 F=>olI isAgg2 F rfl rfl H.sm h2 fun a i3 F=>xA 2 F rfl fun a F=>xJ (xF ?_)));refine xY (xA 2 F rfl fun a F=>xJ ?_);obtain⟨V,d,O⟩:=xM d;refine oH (fun a w=>V= .nx ()∧Sk a 40 [(1,p),(2,oO n),(9,j),(10,xC (f.scope.length:Int)),(11,xC (e:Int))]∧Sep [] B i w [bx n [xC f.rel,j] 69]) ?_ ?_
   ·
    refine oJ ?_;obtain⟨a0,a1,d⟩:=dP d;refine qK (fun g a w=>∃ (x:Nat),x+g=(e:Int).toNat∧aS a0 g x ()=some V∧Sk a 40 [(17,xC (x:Int)),(1,p),(2,oO n),(5,xC (e:Int)),(6,xC I),(9,j),(10,xC (f.scope.length:Int)),(11,xC (e:Int)),(16,xC (e:Int))]∧Sep [] B i w [bx n [xC f.rel,j] 69]) (e:Int).toNat ?_ ?_
    ·
     exact⟨0,(Nat.zero_add _),d,F.su,H⟩
    intro W a w ⟨x,A,d,F,H⟩
    cases W with
    | zero=>
     replace d:=cC d;have J:=gH A;refine xV (xA 1 F rfl fun a F=>xJ (xF (zD F rfl J (qJ (qM (qM (zQ ?_)))))));refine xG ?_;exact⟨(zH d),F.su,H⟩
    | succ W=>
     obtain⟨al,d,P⟩:=cI d;rw[a1] at d;have J:=eR A;refine xV (xA 1 F rfl fun a F=>xJ (xF (zC F rfl J (xN (xG (xF ?_))))));have j2:=uA A U;have m2:=jB A U;refine oJ (xV (xA 2 F rfl fun a F=>xJ (xF ?_)));obtain⟨o3,d,a2⟩:=xM d;refine oH (fun a w=>∃ (K:Bool),o3= .nx K∧Sk a 40 [(1,p),(2,oO n),(5,xC (e:Int)),(6,xC I),(9,j),(10,xC (f.scope.length:Int)),(11,xC (e:Int)),(16,xC (e:Int)),(17,xC (x:Int)),(37,.bool K)]∧Sep [] B i w [bx n [xC f.rel,j] 69]) ?_ ?_
     ·
      refine xQ H (by kernel_rfl) (by kernel_rfl) (xP F rfl (fun w l=>oM bM F rfl rfl) fun a F=>qB isAgg41 F rfl rfl (H.qb 0 rfl) rfl fun a F=>xP F rfl (fun w l=>xL F rfl) (fun a F=>?_));obtain⟨z1,c1,d⟩:=xB d;refine qI underlying41 sizeOf2 F rfl rfl rfl E c1 fun a p2 h3 F=>qlI isAgg2 F rfl rfl H.q h3 fun a i4 F=>xP F rfl (fun w l=>xL F rfl) fun a F=>xP F rfl (fun w l=>tN F rfl rfl) fun a F=>xP F rfl (fun w l=>xL F rfl) (fun a F=>?_)
      rcases vR (z1==I) with y | y
      ·
       replace d:=vX y d;have F:=F.eb 27 rfl y;refine xP F rfl (fun w l=>xL F rfl) fun a F=>xP F rfl (fun w l=>xL F rfl) (fun a F=>?_);obtain⟨z2,c2,d⟩:=xB d;refine qI underlying41 sizeOf2 F rfl rfl rfl R c2 fun a p3 h4 F=>qlI isAgg2 F rfl rfl H.q h4 fun a i5 F=>xP F rfl (fun w l=>xL F rfl) fun a F=>xP F rfl (fun w l=>xL F rfl) (fun a F=>?_);obtain⟨z3,c3,d⟩:=xB d;refine qI underlying41 sizeOf2 F rfl rfl rfl R c3 fun a p4 h5 F=>qlI isAgg2 F rfl rfl H.q h5 fun a i6 F=>xP F rfl (fun w l=>sC F rfl rfl) fun a F=>xP F rfl (fun w l=>cD F rfl rfl) fun a F=>kZ fun w H=>xG ?_;exact⟨(z2 != z3),(zH d),F.su,H⟩
      replace d:=vW y d;have F:=F.eb 27 rfl y;refine qR F rfl rfl fun a F=>qR F rfl rfl fun a F=>qR F rfl rfl fun a F=>qR F rfl rfl fun a F=>qR F rfl rfl fun a F=>qR F rfl rfl fun a F=>qR F rfl rfl fun a F=>qR F rfl rfl fun a F=>qR F rfl rfl fun a F=>xP F rfl (fun w l=>cG F rfl rfl) fun a F=>kZ (fun w H=>?_);refine xG ?_;exact⟨false,(zH d),F.su,H⟩
     rintro a w ⟨K,rfl,F,H⟩
     have d:=xW a2;refine xG (qV F rfl (fun C=>?_) (fun C=>?_))
     ·
      replace d:=vX C d;refine xV (xA 1 F rfl fun a F=>xJ (xR (vT (oQ (oQ ?_)))));replace d:=kD d P;refine vT (oQ ?_);replace d:=zZ d O;refine vT (oQ (oQ ?_));replace d:=kD d N;refine vT (oQ ?_);replace d:=zZ d M;refine oQ (xT F rfl (oE F rfl) ?_);obtain rfl:=oj d;exact⟨rfl,H.bl⟩
     replace d:=vW C d;refine xN (vH (xG (xY (vP F rfl rfl rfl m2 fun a F=>xA 1 F rfl fun a F=>xJ ?_))));replace d:=vU d P;exact⟨_,Nat.lt_succ_self _,x+1,(by omega),d,F.su,H⟩
   rintro a w ⟨rfl,F,H⟩
   have d:=xW O;refine vH (xG (xY (vP F rfl rfl rfl m1 fun a F=>xA 1 F rfl fun a F=>xJ ?_)));replace d:=vU d N;exact⟨_,Nat.lt_succ_self _,e+1,t,⟨h.1,h.2.2⟩,rfl,d,F.su,H⟩
 rintro a w ⟨rfl,F,H⟩
 have d:=xW M;refine xG (xV (xA 1 F rfl fun a F=>xJ (xR (xT F rfl (oE F rfl) ?_))));obtain rfl:=oj d;exact⟨rfl,H.bl⟩
def dY (c:List Int) (e f:Int) (d:Con) (h:(List (List Int))):Option Bool:=
 zR (σ:=Bool) (
  xZ (ix c e) fun i=>
  if (i != f) then  some (.nx true) else  xZ (fK d c) fun j=>
   some (.nx (!j))) fun n=>
 if n then
  some false
 else
  zR (σ:=Unit) (
   qT (σ:=Unit) (ρ:=Bool) (fun (p:Nat) (t:Int) (s:Unit)=>
     match s with
     | _=>
     xZ (ix h t) fun x=>
     xZ (ix c (p:Int)) fun y=>
     xZ (zB x y) fun A=>
     if (!A) then
      some (.ret false)
     else
      some (.go ())) d.scope 0 ()) fun _=>
  some true
theorem rJ {B:Nat→Prop} {P:List Int} {Q D:Int} {i:Con} {R:(List (List Int))} (r:Bool) (d:dY P Q D i R=some r) {t:Value} {E:Value} {G:Value} {y:Value} {x:Value} (e:World) (hN:∀ c,B c→c<e.heap.size) (I:Bo B e (Sl 1 xI) t P) (A1:Bo B e (Pt 1 xI) E Q) (A2:Bo B e (Pt 1 xI) G D) (S:Bo B e (Pt 2 oR) y i) (A4:Bo B e (Pt 1 (vQ 1 (vQ 1 xI))) x R):Calls Tryz.prog 175 #[t,E,G,y,x] e (kL (.bool r) e):=by
 unfold dY at d
 refine xX (L:=[(0,t),(1,E),(2,G),(3,y),(4,x)]) func175 rfl rfl rfl (sc rfl (sc rfl (sc rfl (sc rfl (sc rfl sn))))) (fun a F=>?_);have H:=Sep.start hN;refine xV (xA 1 F rfl fun a F=>xJ (xF (xF ?_)));obtain⟨o1,d,W⟩:=xM d;refine oH (fun a w=>∃ (J:Bool),o1= .nx J∧Sk a 40 [(0,t),(3,y),(4,x),(20,.bool J)]∧Sep [] B e w []) ?_ ?_
 ·
  refine xQ H (by kernel_rfl) (by kernel_rfl) (xP F rfl (fun w l=>xL F rfl) fun a F=>qlI isAgg3 F rfl rfl H.q A1 (fun a i1 F=>?_));obtain⟨z1,c1,d⟩:=xB d;refine qI underlying41 sizeOf2 F rfl rfl rfl I c1 fun a p1 h1 F=>qlI isAgg2 F rfl rfl H.q h1 fun a aq F=>qlI isAgg2 F rfl rfl H.q A2 fun a i2 F=>xP F rfl (fun w l=>sC F rfl rfl) fun a F=>xP F rfl (fun w l=>xL F rfl) (fun a F=>?_)
  rcases vR (z1 != D) with p | p
  ·
   replace d:=vX p d;have F:=F.eb 15 rfl p;refine qR F rfl rfl fun a F=>qR F rfl rfl fun a F=>qR F rfl rfl fun a F=>qR F rfl rfl fun a F=>xP F rfl (fun w l=>cD F rfl rfl) fun a F=>kZ fun w H=>xG ?_;exact⟨true,(zH d),F.su,H⟩
  replace d:=vW p d;have F:=F.eb 15 rfl p;refine qlA isAgg69 sizeOf69 F rfl rfl H.q S fun a v5 h2 F=>xP F rfl (fun w l=>xL F rfl) (fun a F=>?_);obtain⟨T,c2,d⟩:=xB d;refine fX F rfl call176 rfl (fun w w' h l=>l.through h) (fun w l=>tM T c2 w aA ((H.go l).a h2) ((H.go l).a I)) fun a F=>xP F rfl (fun w l=>lD F rfl) fun a F=>xP F rfl (fun w l=>cG F rfl rfl) fun a F=>kZ fun w H=>xG ?_;exact⟨(!T),(zH d),F.su,H⟩
 rintro a w ⟨J,rfl,F,H⟩
 have d:=xW W;refine xG (qV F rfl (fun A=>?_) (fun A=>?_))
 ·
  replace d:=vX A d;refine xV (xA 1 F rfl fun a F=>xJ (xR (oQ (xT F rfl (oE F rfl) ?_))));obtain rfl:=oj d;exact⟨rfl,H.bl⟩
 replace d:=vW A d;refine xN (xG (xF (xV (oF (s':=1) bM F rfl rfl S oR.f1 fun a p2 h3 F=>olS isAgg41 F rfl rfl H.sm h3 fun a v6 U F=>oL underlying41 F rfl rfl U fun a V F=>xA 1 F rfl fun a F=>xJ ?_))));obtain⟨M,d,N⟩:=xM d;refine oH (fun a w=>M= .nx ()∧Sk a 40 []∧Sep [] B e w []) ?_ ?_
 ·
  refine oJ ?_;obtain⟨X,Y,d⟩:=qP d;refine qK (fun g a w=>∃ (n:Nat) (j:List Int),(n≤i.scope.length∧i.scope.drop n=j)∧j.length=g∧qT X j n ()=some M∧Sk a 40 [(24,xC (n:Int)),(0,t),(4,x),(22,v6),(23,xC (i.scope.length:Int))]∧Sep [] B e w []) i.scope.length ?_ ?_
  ·
   exact⟨0,i.scope,⟨Nat.zero_le _,rfl⟩,rfl,d,F.su,H⟩
  intro g1 a w ⟨n,j,f,Z,d,F,H⟩
  cases j with
  | nil=>
   replace d:=qO d;have q1:=qQ f.1 f.2;have K:=vS q1;refine xV (xA 1 F rfl fun a F=>xJ (xF (zD F rfl K (qJ (qM (qM (zQ ?_)))))));refine xG ?_;exact⟨(zH d),F.sub sn,H⟩
  | cons x1 j=>
   subst Z;replace f:=oZ f.2;have y4:=qX f.2.1;obtain⟨ar,d,O⟩:=qG d;rw[Y] at d;have K:=vE f.1;refine xV (xA 1 F rfl fun a F=>xJ (xF (zC F rfl K (xN (xG (xF ?_))))));have j1:=gP (Nat.le_of_lt f.1) V;have m1:=zU f.1 V;refine oJ (xV (xA 1 F rfl fun a F=>oI underlying41 sizeOf2 F rfl rfl rfl U y4 fun a p3 h5 F=>olI isAgg2 F rfl rfl H.sm h5 fun a i4 F=>xA 2 F rfl fun a F=>xJ (xF ?_)));refine xQ H (by kernel_rfl) (by kernel_rfl) (qlS isAgg38 F rfl rfl H.q A4 fun a v7 h6 F=>xP F rfl (fun w l=>xL F rfl) (fun a F=>?_));obtain⟨z3,c3,d⟩:=xB d;refine qI underlying38 sizeOf41 F rfl rfl rfl h6 c3 fun a p4 h7 F=>qlS isAgg41 F rfl rfl H.q h7 fun a v8 h8 F=>xP F rfl (fun w l=>xL F rfl) fun a F=>xP F rfl (fun w l=>xL F rfl) (fun a F=>?_);obtain⟨z4,c4,d⟩:=xB d;refine qI underlying41 sizeOf2 F rfl rfl rfl I c4 fun a p5 h9 F=>qlI isAgg2 F rfl rfl H.q h9 (fun a i5 F=>?_);obtain⟨z5,c5,d⟩:=xB d;refine fX F rfl call73 rfl (fun w w' h l=>l.through h) (fun w l=>eK z5 c5 w aA ((H.go l).a h8) i5) fun a F=>xP F rfl (fun w l=>lD F rfl) fun a F=>kZ fun w H=>xG (qV F rfl (fun C=>?_) (fun C=>?_))
   ·
    replace d:=vX C d;refine xV (xA 1 F rfl fun a F=>xJ (xR (vT (oQ (oQ ?_)))));replace d:=kD d O;refine vT (oQ ?_);replace d:=zZ d N;refine oQ (xT F rfl (oE F rfl) ?_);obtain rfl:=oj d;exact⟨rfl,H.bl⟩
   replace d:=vW C d;refine xN (vH (xG (xY (vP F rfl rfl rfl m1 fun a F=>xA 1 F rfl fun a F=>xJ ?_))));replace d:=vU d O;exact⟨_,Nat.lt_succ_self _,n+1,j,⟨f.1,f.2.2⟩,rfl,d,F.su,H⟩
 rintro a w ⟨rfl,F,H⟩
 have d:=xW N;refine xG (xV (xA 1 F rfl fun a F=>xJ (xR (xT F rfl (oE F rfl) ?_))));obtain rfl:=oj d;exact⟨rfl,H.bl⟩
def bF (d:Template) (c:Con) (e:List (List Int)) (f h:Int):Option Bool:=
 xZ (ix d.rels c.rel) fun i=>
 xZ (zA i.tuples (fun j=>dY j f h (Con.mk c.rel c.scope) e)) fun n=>
 some n
theorem tD {B:Nat→Prop} {x:Template} {y:Con} {A:List (List Int)} {f i:Int} (r:Bool) (d:bF x y A f i=some r) {n:Value} {p:Value} {t:Value} (e:World) (G:∀ c,B c→c<e.heap.size) (I:Bo B e (kK 2 xH) n x) (J:Bo B e (kK 2 oR) p y) (C:Bo B e (Sl 1 (vQ 1 xI)) t A) (D:xS f) (E:xS i):Calls Tryz.prog 168 #[n,p,t,xC f,xC i] e (kL (.bool r) e):=by
 unfold bF at d
 refine xX (L:=[(0,n),(1,p),(2,t),(3,xC f),(4,xC i)]) func168 rfl rfl rfl (sc rfl (sc rfl (sc rfl (sc rfl (sc rfl sn))))) (fun a F=>?_);have H:=Sep.start G;refine xV ?_;obtain⟨V,rfl,X,K⟩:=xH.o I;refine oX F rfl rfl rfl H (fun a w Y H F=>?_);obtain⟨U,rfl,M,N⟩:=oR.o J;refine oX F rfl rfl rfl H fun a w Z H F=>oX F rfl rfl (nJ (H.a C).one) H fun a w b3 H F=>oX F rfl rfl rfl H fun a w b4 H F=>oX F rfl rfl rfl H fun a w b5 H F=>xA 1 F rfl fun a F=>vG (oD kG F rfl rfl rfl fun a F=>oB isAgg24 F rfl rfl (H.b 4 rfl) rfl (fun a F=>?_));refine oD lX F rfl rfl rfl fun a F=>oB isAgg2 F rfl rfl (H.b 3 rfl) rfl (fun a F=>?_);obtain⟨z1,O,d⟩:=xB d;refine oI underlying24 sizeOf66 F rfl rfl rfl K O fun a p1 P F=>oF (s':=1) bG F rfl rfl P oV.f1 fun a p2 Q F=>olS isAgg38 F rfl rfl H.sm Q fun a v4 R F=>mW F rfl rfl rfl (fun a F=>?_);obtain⟨S,T,d⟩:=xB d;refine oK F rfl call151 rfl H (bT S T _ aA (H.a R) call175 (fun a0 r h W j u0 f0=>rJ r h W aA f0 ((c1I (H.g 1 rfl).bk D).w j) ((c1I (H.g 0 rfl).bk E).w j) ((oR.b (H.g 3 rfl).bk M (H.a N)).w j) ((c1S (H.g 2 rfl).bk (H.a C)).w j))) fun a w H F=>xA 1 F rfl fun a F=>xJ (xR (xT F rfl (oE F rfl) ?_));obtain rfl:=oj d;exact⟨rfl,H.bl⟩
def iP (c d:Int):Option Bool:=
 some ((c==d))
theorem tZ {B:Nat→Prop} {d h:Int} (r:Bool) (i:iP d h=some r) {f:Value} (e:World) (j:∀ c,B c→c<e.heap.size) (p:xS d) (n:Bo B e (Pt 1 xI) f h):Calls Tryz.prog 94 #[xC d,f] e (kL (.bool r) e):=by
 unfold iP at i
 refine xX (L:=[(0,xC d),(1,f)]) func94 rfl rfl rfl (sc rfl (sc rfl sn)) (fun a F=>?_);have H:=Sep.start j;refine xV (xA 1 F rfl fun a F=>vG (xA 1 F rfl fun a F=>olI isAgg2 F rfl rfl H.sm n fun a t F=>xA 2 F rfl fun a F=>?_));refine xJ (xR (xT F rfl (oE F rfl) ?_));obtain rfl:=oj i;exact⟨rfl,H.bl⟩
def kI (N:Nat) (i:List Int) (n:Int→Option Bool):Option (List Int):=
 xZ (vV i n) fun j=>
 if (j==(-1)) then
  some i
 else
  xZ (ck (j+1)) fun x=>
  zR (σ:=Int×Int×(List Int)) (
   fA (σ:=Int×Int×(List Int)) (ρ:=(List Int)) (fun(s:Int×Int×(List Int))=>
     match s with
     | (d,e,c)=>
     if (decide (e<(c.length:Int))) then
      xZ (ix c e) fun p=>
      xZ (n p) fun y=>
      if (!y) then
       xZ (ix c d) fun D=>
       xZ (ck (d+1)) fun A=>
       xZ (ck (e+1)) fun B=>
       some (.go (A,B,(c.set (d).toNat p)))
      else
       xZ (ck (e+1)) fun C=>
       some (.go (d,C,c))
     else
      some (.brk (d,e,c))) N (j,x,i)) fun(f,E,h)=>
  xZ (sl h f (h.length:Int)) fun F=>
  xZ (sl (h.take (f).toNat++List.replicate (h.length - (f).toNat) 0) 0 f) fun t=>
  some t
theorem iK {B:Nat→Prop} {N:Nat} {J:List Int} {S:Int→Option Bool} (r:(List Int)) (d:kI N J S=some r) {p:Value} {i:FuncId} {y:List Value} {A:List Nat} (e:World) (hN:∀ c,B c→c<e.heap.size) (S0:Sep A B e e [rl 1 xI 2 p J]) (P:∀ args w,(callFunc i args).run Tryz.prog w= .ok (.enter i args) w) (Q:∀ (t:Int) (r:Bool),S t=some r→∀ W,Sm B e W→xS t→Calls Tryz.prog i ([xC t]++y:List Value).toArray W (kL (.bool r) W)):Calls Tryz.prog 93 #[p,.func (.func i) #[] y.toArray] e (Gv (fun v w'=>∃ (R:Value),v=R∧Sep A B e w' [rl 1 xI 2 R r])):=by
 unfold kI at d
 refine xX (L:=[(0,p),(1,.func (.func i) #[] y.toArray)]) func93 rfl rfl rfl (sc rfl (sc rfl sn)) (fun a F=>?_);have H:=S0;refine xV (xA 1 F rfl fun a F=>vG (xA 2 F rfl fun a F=>?_));obtain⟨T,c1,d⟩:=xB d;refine oKI F rfl call124 rfl H (eA T c1 _ aA (H.l 0 rfl) P (fun t r h W l1=>Q t r h W (H.go l1).sm)) fun a w H a5 F=>xA 1 F rfl fun a F=>xJ (xF (xV (xA 2 F rfl fun a F=>xJ ?_)));refine qV F rfl (fun D=>?_) (fun D=>?_)
 ·
  replace d:=vX D d;refine xV (xA 2 F rfl fun a F=>xJ (xR (oQ (xT F rfl (oE F rfl) ?_))));obtain rfl:=oj d;exact⟨_,rfl,p,rfl,H⟩
 replace d:=vW D d;refine xN (xG (xF (xV (xA 1 F rfl fun a F=>?_))));obtain⟨z2,U,d⟩:=xB d;refine cX F rfl rfl rfl U fun a F=>xA 1 F rfl fun a F=>xJ ?_;obtain⟨V,d,a6⟩:=xM d;refine oH (fun a w=>∃ (C K:Int) (M:List Int) (O:Value),V= .nx (C,K,M)∧Sk a 42 [(0,O),(5,xC C)]∧Sep A B e w [rl 1 xI 2 O M]∧xS C∧xS K) ?_ ?_
 ·
  refine oJ ?_;obtain⟨a7,a8,d⟩:=bJ d;refine qK (fun g a w=>∃ (f x:Int) (j:List Int) (n:Value),fA a7 g (f,x,j)=some V∧Sk a 42 [(0,n),(1,.func (.func i) #[] y.toArray),(5,xC f),(6,xC x)]∧Sep A B e w [rl 1 xI 2 n j]∧xS f∧xS x) N ?_ ?_
  ·
   exact⟨T,z2,J,p,d,F.su,H,a5,(kV U)⟩
  intro g2 a w ⟨f,x,j,n,d,F,H,X,i2⟩;obtain⟨ar,Y,au,d,E⟩:=kR d;rw[a8] at d;refine xF (xV (xA 2 F rfl fun a F=>oL underlying41 F rfl rfl (H.l 0 rfl) fun a i3 F=>xA 1 F rfl fun a F=>xJ (qV F rfl (fun G=>?_) (fun G=>?_))))
  ·
   replace d:=vX G d;refine xN (xG (xF (oJ (xV (xA 2 F rfl fun a F=>?_)))));obtain⟨z3,c3,d⟩:=xB d;refine oI underlying41 sizeOf2 F rfl rfl rfl (H.l 0 rfl) c3 fun a p1 h1 F=>olI isAgg2 F rfl rfl (Sm.refl _ _) h1 fun a Z F=>xA 1 F rfl fun a F=>vG (xA 2 F rfl fun a F=>?_);obtain⟨z4,c4,d⟩:=xB d;refine oKV F rfl rfl P rfl H (Q _ z4 c4 _ H.sm Z) fun a w H F=>xA 1 F rfl fun a F=>xJ (qV F rfl (fun I=>?_) (fun I=>?_))
   ·
    replace d:=vX I d;refine xV (xA 3 F rfl fun a F=>?_);obtain⟨z5,c5,d⟩:=xB d;refine oRl underlying41 sizeOf2 F rfl rfl rfl H 0 rfl c5 (fun a p2 h2 a9 F=>?_);have H:=H.lw;refine oS sizeOf2 F rfl rfl rfl H a9 (fZ c5) (Eo.int Z) rfl rfl (fun w H=>?_);have H:=H.tl;refine xJ (xY (xA 1 F rfl fun a F=>?_));obtain⟨z6,c6,d⟩:=xB d;refine cX F rfl rfl rfl c6 fun a F=>xA 1 F rfl fun a F=>qU (vH (xG (xY (xA 1 F rfl fun a F=>?_))));obtain⟨z7,c7,d⟩:=xB d;refine cX F rfl rfl rfl c7 fun a F=>xA 1 F rfl fun a F=>xJ ?_;replace d:=vU d E;exact⟨Y,(by omega),z6,z7,(j.set (f).toNat z3),n,d,F.su,H,(kV c6),(kV c7)⟩
   replace d:=vW I d;refine xN (vH (xG (xY (xA 1 F rfl fun a F=>?_))));obtain⟨z8,c8,d⟩:=xB d;refine cX F rfl rfl rfl c8 fun a F=>xA 1 F rfl fun a F=>xJ ?_;replace d:=vU d E;exact⟨Y,(by omega),f,z8,j,n,d,F.su,H,X,(kV c8)⟩
  replace d:=vW G d;refine qJ (qM (qM ?_));replace d:=gV d E;refine zQ (xG ?_);exact⟨f,x,j,n,(zH d),F.su,H,X,i2⟩
 rintro a w ⟨C,K,M,O,rfl,F,H,i5,i6⟩
 have d:=xW a6;refine xG (xV (xA 2 F rfl fun a F=>?_));obtain⟨z9,c9,d⟩:=xB d;refine oRtl underlying41 sizeOf2 F rfl rfl rfl H 0 rfl c9 fun a p3 a4 F=>oRcl underlying41 zeroValue2 F rfl rfl H a4 fun w H=>vG (xA 2 F rfl fun a F=>?_);obtain⟨av,aa,d⟩:=xB d;refine oT underlying41 sizeOf2 F rfl rfl rfl H.lw aa (fun a v3 H F=>?_);have H:=H.tl;refine xA 1 F rfl fun a F=>xJ (xR (xT F rfl (oE F rfl) ?_));obtain rfl:=oj d;exact⟨_,rfl,v3,rfl,H⟩
def aP (N:Nat) (c:List Int) (d:Int):Option (List Int):=
 xZ (vA c) fun e=>
 xZ (kI N e (fun f=>iP f d)) fun h=>
 some h
theorem lU {B:Nat→Prop} {N:Nat} {p:List Int} {e:Int} (r:(List Int)) (d:aP N p e=some r) {i:Value} (f:World) (G:∀ c,B c→c<f.heap.size) (I:Bo B f (Sl 1 xI) i p) (C:xS e):Calls Tryz.prog 50 #[i,xC e] f (Gv (fun v w'=>∃ (n:Value),v=n∧Sep [] B f w' [rl 1 xI 2 n r])):=by
 unfold aP at d
 refine xX (L:=[(0,i),(1,xC e)]) func50 rfl rfl rfl (sc rfl (sc rfl sn)) (fun a F=>?_);have H:=Sep.start G;refine xV (oX F rfl rfl rfl H fun a w b1 H F=>xA 1 F rfl fun a F=>vG (xA 1 F rfl fun a F=>?_));obtain⟨t,J,d⟩:=xB d;refine oG F rfl call86 rfl (zO t J _ aA (H.a I)) (fun a j w ⟨M,X,S⟩ F=>?_);subst j;have H:=H.r1 S n0;refine mW F rfl rfl rfl (fun a F=>?_);obtain⟨O,rfl⟩:∃ x,x=w:=⟨_,rfl⟩;have Y:=H.sm;obtain⟨P,Q,R,e1,H,D,Z⟩:=(H.s [1,0] rfl rfl).fza;have K1:=R.bk;obtain⟨y,T,d⟩:=xB d;obtain⟨X2,U,E⟩:=Sep.lend (K:=[rl 1 xI 2 M t]) (L:=[]) H;refine oG F rfl call93 rfl (iK y T _ H.hN U call94 (fun a0 r h W V f0=>tZ r h W aA f0 (Bo.all (Bo.to (c1I (K1.to H.sm) C) V)))) (fun a j w ⟨A,hv1,S⟩ F=>?_);subst j;have H:Sep P Q O w [rl 1 xI 2 A y]:=E S;refine xA 1 F rfl fun a F=>xJ (xR ?_);have H:=(D.1 H (Ns.all ⟨n0,trivial⟩));refine xT F rfl (oE F rfl) ?_;obtain rfl:=oj d;exact⟨_,rfl,A,rfl,(H.s [1] rfl rfl)⟩
def gW (N:Nat) (j:Template) (M:Instance) (O:List (List Int)) (P:List (List Int)→Option Bool):Option ((List ArcStep)×(List (List Int))):=
 zR (σ:=(List ArcStep)×Bool×(List (List Int))) (
  fA (σ:=(List ArcStep)×Bool×(List (List Int))) (ρ:=(List ArcStep)×(List (List Int))) (fun(s:(List ArcStep)×Bool×(List (List Int)))=>
    match s with
    | (n,p,t)=>
    if p then
     zR (σ:=(List ArcStep)×Bool×(List (List Int))) (
      qT (σ:=(List ArcStep)×Bool×(List (List Int))) (ρ:=(Ctl ((List ArcStep)×Bool×(List (List Int))) ((List ArcStep)×(List (List Int))))) (fun (Q:Nat) (e:Con) (s:(List ArcStep)×Bool×(List (List Int)))=>
        match s with
        | (R,S,T)=>
        zR (σ:=(List ArcStep)×Bool×(List (List Int))) (
         qT (σ:=(List ArcStep)×Bool×(List (List Int))) (ρ:=(Ctl ((List ArcStep)×Bool×(List (List Int))) (Ctl ((List ArcStep)×Bool×(List (List Int))) ((List ArcStep)×(List (List Int)))))) (fun (U:Nat) (d:Int) (s:(List ArcStep)×Bool×(List (List Int)))=>
           match s with
           | (V,W,x)=>
           xZ (ix x d) fun X=>
           xZ (vA X) fun Y=>
           zR (σ:=(List ArcStep)×Bool×(List (List Int))) (
            qT (σ:=(List ArcStep)×Bool×(List (List Int))) (ρ:=(Ctl ((List ArcStep)×Bool×(List (List Int))) (Ctl ((List ArcStep)×Bool×(List (List Int))) (Ctl ((List ArcStep)×Bool×(List (List Int))) ((List ArcStep)×(List (List Int))))))) (fun (k3:Nat) (f:Int) (s:(List ArcStep)×Bool×(List (List Int)))=>
              match s with
              | (i,A,c)=>
              xZ (bF (Template.mk j.size j.rels) (Con.mk e.rel e.scope) c (U:Int) f) fun Z=>
              if Z then
               some (.go (i,A,c))
              else
               xZ (ix c d) fun z4=>
               xZ (aP N z4 f) fun h=>
               xZ (ap i ([(ArcStep.mk d f (Q:Int))])) fun y=>
               xZ (P (c.set (d).toNat h)) fun z7=>
               if z7 then
                some (.ret (.ret (.ret (.ret (y,(c.set (d).toNat h))))))
               else
                some (.go (y,true,(c.set (d).toNat h)))) Y 0 (V,W,x)) fun(B,C,D)=>
           some (.go (B,C,D))) e.scope 0 (R,S,T)) fun(E,F,G)=>
        some (.go (E,F,G))) M.cons 0 (n,false,t)) fun(H,I,J)=>
     some (.go (H,I,J))
    else
     some (.brk (n,p,t))) N ([],true,O)) fun(K,a2,L)=>
 some (K,L)
theorem wJ {B:Nat→Prop} {N:Nat} {K:Template} {j:Instance} {x2:List (List Int)} {x3:List (List Int)→Option Bool} (r:(List ArcStep)×(List (List Int))) (f:gW N K j x2 x3=some r) {v0:Value} {v1:Value} {h:Value} {A:FuncId} {i:Nat} {J:List Nat} (n:World) (hN:∀ c,B c→c<n.heap.size) (S0:Sep J B n n [rw N0 1 (vQ 1 xI) 41 h x2,bx i [h] 38]) (A0:Bo B n (kK 2 xH) v0 K) (A1:Bo B n (kK 2 xK) v1 j) (hg3:∀ args w,(callFunc A args).run Tryz.prog w= .ok (.enter A args) w) (hp3:∀ (d:List (List Int)) (r:Bool),x3 d=some r→∀ W,Bo (All W) W (Pt 1 (vQ 1 (vQ 1 xI))) (oO i) d→Calls Tryz.prog A #[oO i] W (kL (.bool r) W)):Calls Tryz.prog 152 #[v0,v1,h,.func (.func A) #[] #[oO i]] n (Gv (fun v w'=>∃ (bd:Value),v=bd∧Sep J B n w' [rl 3 qH 173 bd r.1,rw N0 1 (vQ 1 xI) 41 h r.2,bx i [h] 38])):=by
 unfold gW at f
 refine xX (L:=[(0,v0),(1,v1),(2,h),(3,.func (.func A) #[] #[oO i])]) func152 rfl rfl rfl (sc rfl (sc rfl (sc rfl (sc rfl sn)))) (fun a F=>?_);have H:=S0;refine xV ?_;obtain⟨Q,rfl,i1,h1⟩:=xH.o A0;refine oX F rfl rfl rfl H (fun a w p H F=>?_);obtain⟨C,rfl,i2,h2⟩:=xK.o A1;refine oX F rfl rfl rfl H fun a w t H F=>xA 1 F rfl fun a F=>vG (oR0 (R:=qH) underlying170 sizeOf173 F rfl H fun a w v4 H F=>xA 1 F rfl fun a F=>xJ (xF ?_));refine xV (xA 1 F rfl fun a F=>xJ ?_);obtain⟨o1,f,be⟩:=xM f;refine oH (fun a w=>∃ (s1:List ArcStep) (v5:Value) (s2:Bool) (s3:List (List Int)),o1= .nx (s1,s2,s3)∧Sk a 74 [(2,h),(3,.func (.func A) #[] #[oO i]),(9,v5)]∧Sep J B n w [rl 3 qH 173 v5 s1,rw N0 1 (vQ 1 xI) 41 h s3,bx i [h] 38]) ?_ ?_
 ·
  refine oJ ?_;obtain⟨fl1,c8,f⟩:=bJ f;refine qK (fun g a w=>∃ (s4:List ArcStep) (v6:Value) (s5:Bool) (s6:List (List Int)),fA fl1 g (s4,s5,s6)=some o1∧Sk a 74 [(2,h),(3,.func (.func A) #[] #[oO i]),(4,oO p),(5,oO t),(9,v6),(10,.bool s5)]∧Sep J B n w [rl 3 qH 173 v6 s4,bx t [xC j.vars,C] 29,bx p [xC K.size,Q] 26,rw N0 1 (vQ 1 xI) 41 h s6,bx i [h] 38]) N ?_ ?_
  ·
   exact⟨[],v4,true,x2,f,F.su,H⟩
  intro g1 a w ⟨s4,v6,s5,s6,f,F,H⟩;obtain⟨dq,t1,dr,f,aw⟩:=kR f;rw[c8] at f;refine xF (xV (xA 1 F rfl fun a F=>xJ (qV F rfl (fun ax=>?_) (fun ax=>?_))))
  ·
   replace f:=vX ax f;refine xN (xG (oJ (xV (xA 1 F rfl fun a F=>vG (oD zT F rfl rfl rfl (fun a F=>?_))))));refine oB isAgg27 F rfl rfl (H.b 1 rfl) rfl fun a F=>oL underlying27 F rfl rfl h2 fun a i3 F=>xA 1 F rfl fun a F=>xJ ?_;obtain⟨o2,f,bf⟩:=xM f;refine oH (fun a w=>∃ (s7:List ArcStep) (v7:Value) (s8:Bool) (s9:List (List Int)),o2= .nx (s7,s8,s9)∧Sk a 74 [(2,h),(3,.func (.func A) #[] #[oO i]),(4,oO p),(5,oO t),(9,v7),(10,.bool s8)]∧Sep J B n w [rl 3 qH 173 v7 s7,bx t [xC j.vars,C] 29,bx p [xC K.size,Q] 26,rw N0 1 (vQ 1 xI) 41 h s9,bx i [h] 38]) ?_ ?_
   ·
    refine oJ ?_;obtain⟨c9,ca,f⟩:=qP f;refine qK (fun g a w=>∃ (x:Nat) (T:List Con) (a0:List ArcStep) (v8:Value) (a1:Bool) (a2:List (List Int)),(x≤j.cons.length∧j.cons.drop x=T)∧T.length=g∧qT c9 T x (a0,a1,a2)=some o2∧Sk a 74 [(22,xC (x:Int)),(2,h),(3,.func (.func A) #[] #[oO i]),(4,oO p),(5,oO t),(9,v8),(10,.bool a1),(20,C),(21,xC (j.cons.length:Int))]∧Sep J B n w [rl 3 qH 173 v8 a0,bx t [xC j.vars,C] 29,bx p [xC K.size,Q] 26,rw N0 1 (vQ 1 xI) 41 h a2,bx i [h] 38]) j.cons.length ?_ ?_
    ·
     exact⟨0,j.cons,s4,v6,false,s6,⟨Nat.zero_le _,rfl⟩,rfl,f,F.su,H⟩
    intro g2 a w ⟨x,T,a0,v8,a1,a2,G,cb,f,F,H⟩
    cases T with
    | nil=>
     replace f:=qO f;have q1:=qQ G.1 G.2;have l1:=vS q1;refine xV (xA 1 F rfl fun a F=>xJ (xF (zD F rfl l1 (qJ (qM (qM (zQ ?_)))))));refine xG ?_;exact⟨a0,v8,a1,a2,(zH f),F.su,H⟩
    | cons E T=>
     subst cb;replace G:=oZ G.2;have y1:=qX G.2.1;obtain⟨ds,f,bg⟩:=qG f;rw[ca] at f;have l1:=vE G.1;refine xV (xA 1 F rfl fun a F=>xJ (xF (zC F rfl l1 (xN (xG (xF ?_))))));have j1:=gP (Nat.le_of_lt G.1) i3;have m1:=zU G.1 i3;refine oJ (xV (xA 1 F rfl fun a F=>oI underlying27 sizeOf69 F rfl rfl rfl h2 y1 fun a p1 h3 F=>olA isAgg69 sizeOf69 F rfl rfl H.sm h3 fun a v9 h4 F=>oA zeroValue69 F rfl rfl H fun a w Z H F=>xA 1 F rfl fun a F=>?_));obtain⟨P,rfl,i4,h5⟩:=oR.o h4;refine cN (vs:=[xC E.rel,P]) sizeOf69 F rfl rfl rfl H (oc rfl (oc (H.a h5).one on)) rfl rfl fun w H=>vG (oD bM F rfl rfl rfl fun a F=>oB isAgg41 F rfl rfl (H.b 0 rfl) rfl fun a F=>oL underlying41 F rfl rfl h5 fun a i5 F=>xA 1 F rfl fun a F=>xJ ?_);obtain⟨o3,f,bh⟩:=xM f;refine oH (fun a w=>∃ (ae:List ArcStep) (af:Value) (ag:Bool) (ah:List (List Int)),o3= .nx (ae,ag,ah)∧Sk a 74 [(2,h),(3,.func (.func A) #[] #[oO i]),(4,oO p),(5,oO t),(9,af),(10,.bool ag),(20,C),(21,xC (j.cons.length:Int)),(22,xC (x:Int))]∧Sep J B n w [rl 3 qH 173 af ae,bx t [xC j.vars,C] 29,bx p [xC K.size,Q] 26,rw N0 1 (vQ 1 xI) 41 h ah,bx i [h] 38]) ?_ ?_
     ·
      refine oJ ?_;obtain⟨cc,cd,f⟩:=qP f;refine qK (fun g a w=>∃ (M:Nat) (U:List Int) (a3:List ArcStep) (a4:Value) (a5:Bool) (a6:List (List Int)),(M≤E.scope.length∧E.scope.drop M=U)∧U.length=g∧qT cc U M (a3,a5,a6)=some o3∧Sk a 74 [(30,xC (M:Int)),(2,h),(3,.func (.func A) #[] #[oO i]),(4,oO p),(5,oO t),(9,a4),(10,.bool a5),(11,xC (x:Int)),(12,oO Z),(20,C),(21,xC (j.cons.length:Int)),(22,xC (x:Int)),(28,P),(29,xC (E.scope.length:Int))]∧Sep J B n w [bx Z [xC E.rel,P] 69,rl 3 qH 173 a4 a3,bx t [xC j.vars,C] 29,bx p [xC K.size,Q] 26,rw N0 1 (vQ 1 xI) 41 h a6,bx i [h] 38]) E.scope.length ?_ ?_
      ·
       exact⟨0,E.scope,a0,v8,a1,a2,⟨Nat.zero_le _,rfl⟩,rfl,f,F.su,H⟩
      intro g4 a w ⟨M,U,a3,a4,a5,a6,I,ce,f,F,H⟩
      cases U with
      | nil=>
       replace f:=qO f;have q2:=qQ I.1 I.2;have l2:=vS q2;refine xV (xA 1 F rfl fun a F=>xJ (xF (zD F rfl l2 (qJ (qM (qM (zQ ?_)))))));refine xG ?_;exact⟨a3,a4,a5,a6,(zH f),F.su,(H.s [1,2,3,4,5] rfl rfl)⟩
      | cons x5 U=>
       subst ce;replace I:=oZ I.2;have y2:=qX I.2.1;obtain⟨du,f,bi⟩:=qG f;rw[cd] at f;have l2:=vE I.1;refine xV (xA 1 F rfl fun a F=>xJ (xF (zC F rfl l2 (xN (xG (xF ?_))))));have j2:=gP (Nat.le_of_lt I.1) i5;have m2:=zU I.1 i5;refine oJ (xV (xA 1 F rfl fun a F=>oI underlying41 sizeOf2 F rfl rfl rfl h5 y2 fun a p2 h6 F=>olI isAgg2 F rfl rfl H.sm h6 fun a i6 F=>xA 2 F rfl fun a F=>xJ (xF ?_)));refine xY (xA 2 F rfl fun a F=>?_);obtain⟨z1,c1,f⟩:=xB f;refine oI underlying38 sizeOf41 F rfl rfl rfl (H.r 4 rfl) c1 fun a p3 h7 F=>olS isAgg41 F rfl rfl (Sm.refl _ _) h7 (fun a dw h8 F=>?_);obtain⟨V,c2,f⟩:=xB f;refine oG F rfl call86 rfl (zO V c2 _ aA h8) (fun a vv w ⟨bj,dx,S⟩ F=>?_);subst vv;have H:=H.r1 S n0;refine oL underlying41 F rfl rfl (H.l 0 rfl) fun a i7 F=>xA 1 F rfl fun a F=>xJ ?_;obtain⟨o4,f,bm⟩:=xM f;refine oH (fun a w=>∃ (ai:List ArcStep) (aj:Value) (ak:Bool) (al:List (List Int)),o4= .nx (ai,ak,al)∧Sk a 74 [(2,h),(3,.func (.func A) #[] #[oO i]),(4,oO p),(5,oO t),(9,aj),(10,.bool ak),(11,xC (x:Int)),(12,oO Z),(20,C),(21,xC (j.cons.length:Int)),(22,xC (x:Int)),(28,P),(29,xC (E.scope.length:Int)),(30,xC (M:Int))]∧Sep J B n w [bx Z [xC E.rel,P] 69,rl 3 qH 173 aj ai,bx t [xC j.vars,C] 29,bx p [xC K.size,Q] 26,rw N0 1 (vQ 1 xI) 41 h al,bx i [h] 38]) ?_ ?_
       ·
        refine oJ ?_;obtain⟨cf,cg,f⟩:=qP f;refine qK (fun g a w=>∃ (X:Nat) (O:List Int) (a7:List ArcStep) (a8:Value) (a9:Bool) (Y:List (List Int)),(X≤V.length∧V.drop X=O)∧O.length=g∧qT cf O X (a7,a9,Y)=some o4∧Sk a 74 [(41,xC (X:Int)),(2,h),(3,.func (.func A) #[] #[oO i]),(4,oO p),(5,oO t),(9,a8),(10,.bool a9),(11,xC (x:Int)),(12,oO Z),(13,xC (M:Int)),(14,xC x5),(20,C),(21,xC (j.cons.length:Int)),(22,xC (x:Int)),(28,P),(29,xC (E.scope.length:Int)),(30,xC (M:Int)),(39,bj),(40,xC (V.length:Int))]∧Sep J B n w [rl 1 xI 2 bj V,bx Z [xC E.rel,P] 69,rl 3 qH 173 a8 a7,bx t [xC j.vars,C] 29,bx p [xC K.size,Q] 26,rw N0 1 (vQ 1 xI) 41 h Y,bx i [h] 38]) V.length ?_ ?_
        ·
         exact⟨0,V,a3,a4,a5,a6,⟨Nat.zero_le _,rfl⟩,rfl,f,F.su,H⟩
        intro g5 a w ⟨X,O,a7,a8,a9,Y,D,ch,f,F,H⟩
        cases O with
        | nil=>
         replace f:=qO f;have q3:=qQ D.1 D.2;have l3:=vS q3;refine xV (xA 1 F rfl fun a F=>xJ (xF (zD F rfl l3 (qJ (qM (qM (zQ ?_)))))));refine xG ?_;exact⟨a7,a8,a9,Y,(zH f),F.su,(H.s [1,2,3,4,5,6] rfl rfl)⟩
        | cons x6 O=>
         subst ch;replace D:=oZ D.2;have y3:=qX D.2.1;obtain⟨dy,f,ay⟩:=qG f;rw[cg] at f;have l3:=vE D.1;refine xV (xA 1 F rfl fun a F=>xJ (xF (zC F rfl l3 (xN (xG (xF ?_))))));have j3:=gP (Nat.le_of_lt D.1) i7;have m3:=zU D.1 i7;refine oJ (xV (oI underlying41 sizeOf2 F rfl rfl rfl (H.l 0 rfl) y3 fun a p4 h9 F=>olI isAgg2 F rfl rfl (Sm.refl _ _) h9 fun a i8 F=>xA 1 F rfl fun a F=>xJ (xF (xV ?_))));refine dJ isAgg26 sizeOf26 F rfl rfl (H.b 4 rfl) rfl rfl fun a F=>dJ isAgg69 sizeOf69 F rfl rfl (H.b 1 rfl) rfl rfl fun a F=>xA 3 F rfl fun a F=>?_;obtain⟨z3,c3,f⟩:=xB f;refine oK F rfl call168 rfl H (tD z3 c3 _ aA (xH.m i1 (H.a h1)) (oR.m i4 (H.a h5)) (H.r 5 rfl) j2 i8) fun a w H F=>xJ (qV F rfl (fun az=>?_) (fun az=>?_))
         ·
          replace f:=vX az f;refine qJ (qM (zQ (xG (xY (vP F rfl rfl rfl m3 fun a F=>xA 1 F rfl fun a F=>xJ ?_)))));replace f:=vU f ay;exact⟨_,Nat.lt_succ_self _,X+1,O,a7,a8,a9,Y,⟨D.1,D.2.2⟩,rfl,f,F.su,H⟩
         replace f:=vW az f;refine xN (xG (xV (xA 4 F rfl fun a F=>?_)));obtain⟨z4,c4,f⟩:=xB f;refine oI underlying38 sizeOf41 F rfl rfl rfl (H.r 5 rfl) c4 fun a p5 ci F=>olS isAgg41 F rfl rfl (Sm.refl _ _) ci fun a dz cj F=>xA 1 F rfl fun a F=>?_;obtain⟨z5,c5,f⟩:=xB f;refine oG F rfl call50 rfl (lU z5 c5 _ aA cj i8) (fun a vv w ⟨e0,e1,S⟩ F=>?_);subst vv;have H:=H.r1 S n0;refine oRi underlying38 sizeOf41 F rfl rfl rfl H 6 rfl c4 fun a p6 e2 cl F=>oSc sizeOf41 F rfl rfl rfl (H.s [6,0,1,2,3,4,5,7] rfl rfl) cl (fZ c4) n0 (fun e q=>(Eo.sl q.ld)) ((H.s [6,0,1,2,3,4,5,7] rfl rfl).l 1 rfl).one rfl fun w H=>vG (xA 4 F rfl fun a F=>vY underlying173 zeroValue173 (fun w=>by simp [sizeOf2];rfl) F rfl rfl rfl rfl rfl (oc rfl (oc rfl (oc rfl on))) rfl rfl (fun a F=>?_));refine cM (R:=qH) (y:=(ArcStep.mk x5 x6 (x:Int))) underlying170 sizeOf173 zeroValue173 rfl rfl F rfl rfl H (Eo.agg (qH.m i6 i8 j1)) (fun a w e3 H F=>?_);obtain⟨z6,c6,f⟩:=xB f;refine oPL (sz:=3) (R:=qH) (z:=(.agg #[xC 0,xC 0,xC 0])) (bytes:=24) underlying170 (by kernel_rfl) rfl rfl F rfl rfl rfl (H.s [4,0,1,2,3,5,6,7] rfl rfl) c6 fun a w bn H F=>xA 1 F rfl fun a F=>vG (xA 1 F rfl fun a F=>vG ?_);refine xA 1 F rfl fun a F=>?_;obtain⟨z7,c7,f⟩:=xB f;refine oKV F rfl rfl hg3 rfl H (hp3 _ z7 c7 _ (c1S (H.g 6 rfl).bk (H.r 1 rfl))) fun a w H F=>xJ (qV F rfl (fun b0=>?_) (fun b0=>?_))
         ·
          replace f:=vX b0 f;refine xV (xA 2 F rfl fun a F=>xJ (xR (vT (oQ (oQ ?_)))));replace f:=kD f ay;refine vT (oQ ?_);replace f:=zZ f bm;refine vT (oQ (oQ ?_));replace f:=kD f bi;refine vT (oQ ?_);replace f:=zZ f bh;refine vT (oQ (oQ ?_));replace f:=kD f bg;refine vT (oQ ?_);replace f:=zZ f bf;refine vT (oQ ?_);replace f:=kD f aw;refine vT (oQ ?_);replace f:=zZ f be;refine oQ (xT F rfl (oE F rfl) ?_);obtain rfl:=oj f;exact⟨_,rfl,bn,rfl,(H.s [0,1,6] rfl rfl)⟩
         replace f:=vW b0 f;refine xN (vH (xG (xY (vP F rfl rfl rfl m3 fun a F=>xA 1 F rfl fun a F=>xJ ?_))));replace f:=vU f ay;exact⟨_,Nat.lt_succ_self _,X+1,O,z6,bn,true,(Y.set (x5).toNat z5),⟨D.1,D.2.2⟩,rfl,f,F.su,(H.s [2,3,0,4,5,1,6] rfl rfl)⟩
       rintro a w ⟨ai,aj,ak,al,rfl,F,H⟩
       have f:=xW bm;refine vH (xG (xY (vP F rfl rfl rfl m2 fun a F=>xA 1 F rfl fun a F=>xJ ?_)));replace f:=vU f bi;exact⟨_,Nat.lt_succ_self _,M+1,U,ai,aj,ak,al,⟨I.1,I.2.2⟩,rfl,f,F.su,H⟩
     rintro a w ⟨ae,af,ag,ah,rfl,F,H⟩
     have f:=xW bh;refine vH (xG (xY (vP F rfl rfl rfl m1 fun a F=>xA 1 F rfl fun a F=>xJ ?_)));replace f:=vU f bg;exact⟨_,Nat.lt_succ_self _,x+1,T,ae,af,ag,ah,⟨G.1,G.2.2⟩,rfl,f,F.su,H⟩
   rintro a w ⟨s7,v7,s8,s9,rfl,F,H⟩
   have f:=xW bf;refine vH (xG ?_);replace f:=vU f aw;exact⟨t1,(by omega),s7,v7,s8,s9,f,F.su,H⟩
  replace f:=vW ax f;refine qJ (qM (qM ?_));replace f:=gV f aw;refine zQ (xG ?_);exact⟨s4,v6,s5,s6,(zH f),F.su,(H.s [0,3,4] rfl rfl)⟩
 rintro a w ⟨s1,v5,s2,s3,rfl,F,H⟩
 have f:=xW be;refine xG (xV (xA 2 F rfl fun a F=>xJ (xR (xT F rfl (oE F rfl) ?_))));obtain rfl:=oj f;exact⟨_,rfl,v5,rfl,H⟩
def dG (N:Nat) (p:Int) (t:List Rel) (x:Int) (y:List Con) (A e:Int) (f:List Line) (F:List Int) (i:Int) (c:List (List Int)):Option (Bool×Int×(List Line)×Int×(List (List Int))):=
 if (e==A) then
  some (false,e,f,7,c)
 else
  xZ (ck (e+1)) fun j=>
  xZ (zV c) fun B=>
  if B then
   some (true,j,f,i,c)
  else
   xZ (gW N (Template.mk p t) (Instance.mk x y) c (fun d=>zV d)) fun n=>
   zR (σ:=(List Line)) (
    qT (σ:=(List Line)) (ρ:=Bool×Int×(List Line)×Int×(List (List Int))) (fun (G:Nat) (h:ArcStep) (C:(List Line))=>
     xZ (ap C ([(Line.mk 2 h.var h.value h.con)])) fun D=>
     some (.go D)) n.1 0 f) fun E=>
   some (true,j,E,i,n.2)
theorem pZ {B:Nat→Prop} {N:Nat} {D:Int} {ae:List Rel} {E:Int} {af:List Con} {I a1:Int} {V:List Line} {C:List Int} {Q:Int} {x1:List (List Int)} (r:Bool×Int×(List Line)×Int×(List (List Int))) (e:dG N D ae E af I a1 V C Q x1=some r) {p:Nat} {T:Value} {U:Value} {J:Value} {j:Value} {f:Value} {Y:List Nat} (A:World) (hN:∀ c,B c→c<A.heap.size) (S0:Sep Y B A A [bx p [xC D,T,xC E,U,xC I,xC a1,J,j,xC Q] 129,rl 4 qY 95 J V,rl 1 xI 2 j C,rw N0 1 (vQ 1 xI) 41 f x1]) (ao:xS D) (aq:Bo B A (Sl 2 oV) T ae) (ar:xS E) (au:Bo B A (Sl 2 oR) U af) (hx0_4:xS I) (av:xS a1) (ad:xS Q):Calls Tryz.prog 135 #[oO p,f] A (Gv (fun v w'=>∃ (ag:Value),v= .bool r.1∧Sep Y B A w' [bx p [xC D,T,xC E,U,xC I,xC r.2.1,ag,j,xC r.2.2.2.1] 129,rl 4 qY 95 ag r.2.2.1,rl 1 xI 2 j C,rw N0 1 (vQ 1 xI) 41 f r.2.2.2.2]∧xS r.2.1∧xS r.2.2.2.1)):=by
 unfold dG at e
 refine xX (L:=[(0,oO p),(1,f)]) func135 rfl rfl rfl (sc rfl (sc rfl sn)) (fun a F=>?_);have H:=S0;refine xV (oX F rfl rfl (nJ (H.r 3 rfl).one) H fun a w b1 H F=>xA 1 F rfl fun a F=>xJ (xF (xF (xQ H (by kernel_rfl) (by kernel_rfl) (xP F rfl (fun w l=>xL F rfl) fun a F=>xP F rfl (fun w l=>vM F rfl) (fun a F=>?_))))));refine xP F rfl (fun w l=>oM wR F rfl rfl) fun a F=>qB isAgg2 F rfl rfl (H.qb 1 rfl) rfl fun a F=>xP F rfl (fun w l=>xL F rfl) fun a F=>xP F rfl (fun w l=>vM F rfl) fun a F=>xP F rfl (fun w l=>oM xMq F rfl rfl) fun a F=>qB isAgg2 F rfl rfl (H.qb 1 rfl) rfl fun a F=>xP F rfl (fun w l=>tN F rfl rfl) fun a F=>kZ fun w H=>xG (qV F rfl (fun a2=>?_) (fun a2=>?_))
 ·
  replace e:=vX a2 e;refine xV (xA 1 F rfl fun a F=>vO F rfl rfl fun a F=>oD mL F rfl rfl rfl fun a F=>oW sizeOf2 F rfl rfl rfl (H.s [1,0,2,3,4] rfl rfl) rfl rfl rfl fun w H=>vG (xA 1 F rfl fun a F=>?_));refine xJ (xR (oQ (xT F rfl (oE F rfl) ?_)));obtain rfl:=oj e;exact⟨_,rfl,J,rfl,(H.s [0,2,3,4] rfl rfl),av,(show xS (7) by decide)⟩
 replace e:=vW a2 e;refine xN (xG (xV (xA 1 F rfl fun a F=>vO F rfl rfl fun a F=>oD wR F rfl rfl rfl fun a F=>oB isAgg2 F rfl rfl (H.b 1 rfl) rfl (fun a F=>?_))));obtain⟨z1,c1,e⟩:=xB e;refine cX F rfl rfl rfl c1 fun a F=>vO F rfl rfl fun a F=>oD wR F rfl rfl rfl fun a F=>oW sizeOf2 F rfl rfl rfl (H.s [1,0,2,3,4] rfl rfl) rfl rfl rfl fun w H=>vG (mW F rfl rfl rfl fun a F=>xA 1 F rfl fun a F=>qU ?_);refine xG (xF (xV (xA 1 F rfl fun a F=>?_)));obtain⟨z2,ax,e⟩:=xB e;refine oKV (lb:=[oO b1]) F rfl rfl call150 rfl H (iW z2 ax _ aA (c1S (H.g 1 rfl).bk (H.r 4 rfl))) fun a w H F=>xJ (qV F rfl (fun a3=>?_) (fun a3=>?_))
 ·
  replace e:=vX a3 e;refine xV (xA 1 F rfl fun a F=>xJ (xR (oQ (xT F rfl (oE F rfl) ?_))));obtain rfl:=oj e;exact⟨_,rfl,J,rfl,(H.s [0,2,3,4] rfl rfl),(kV c1),ad⟩
 replace e:=vW a3 e;refine xN (xG (xF (xF ?_)));obtain⟨i,c2,e⟩:=xB e;obtain⟨w1,rfl⟩:∃ x,x=w:=⟨_,rfl⟩;have c4:=H.sm;obtain⟨X1,N1,g1,e1,H,aw,c5⟩:=H.fza;have K1:=g1.bk;refine xD H (by kernel_rfl) fun w H=>qW 0 rfl (by kernel_rfl) (xO F rfl (fun w l=>xL F rfl) fun a F=>qE 1 rfl (by kernel_rfl) (xO F rfl (fun w l=>vM F rfl) fun a F=>qE 2 rfl (by kernel_rfl) (xO F rfl (fun w l=>oM xNj F rfl rfl) fun a F=>qE 3 rfl (by kernel_rfl) (vBA isAgg26 sizeOf26 F rfl rfl (K1.v H.sm) rfl rfl fun a F=>qW 4 rfl (by kernel_rfl) (xO F rfl (fun w l=>xL F rfl) (fun a F=>?_))))));refine qE 5 rfl (by kernel_rfl) (xO F rfl (fun w l=>vM F rfl) fun a F=>qE 6 rfl (by kernel_rfl) (xO F rfl (fun w l=>oM xNi F rfl rfl) fun a F=>qE 7 rfl (by kernel_rfl) (vBA isAgg29 sizeOf29 F rfl rfl (K1.v H.sm) rfl rfl fun a F=>qW 9 rfl (by kernel_rfl) (xO F rfl (fun w l=>xL F rfl) fun a F=>qW 12 rfl (by kernel_rfl) (xO F rfl (fun w l=>xL F rfl) fun a F=>xE H 8 rfl (by kernel_rfl) ?_)))));refine oB isAgg38 F rfl rfl (H.b 0 rfl) rfl fun a F=>xJ ⟨⟨_,H⟩,?_⟩;refine xE H 10 rfl (by kernel_rfl) ?_;obtain⟨X2,K2,ay⟩:=Sep.lend (K:=[rw N0 1 (vQ 1 xI) 41 f x1,bx b1 [f] 38]) (L:=[rl 4 qY 95 J V,rl 1 xI 2 j C]) (H.s [3,0,1,2] rfl rfl);refine oG F rfl call152 rfl (wJ i c2 _ H.hN K2 (xH.m ao (H.u (e1 aq))) (xK.m ar (H.u (e1 au))) call150 (fun d r h W hb=>iW r h W aA hb)) (fun a vv w ⟨Z,c6,S⟩ F=>?_);subst vv;have H:Sep X1 N1 w1 w [rl 3 qH 173 Z i.1,rw N0 1 (vQ 1 xI) 41 f i.2,bx b1 [f] 38,rl 4 qY 95 J V,rl 1 xI 2 j C]:=ay S;refine xJ ⟨⟨_,H⟩,?_⟩;refine xE H 11 rfl (by kernel_rfl) (oL underlying170 F rfl rfl (H.l 0 rfl) fun a i1 F=>xJ ⟨⟨_,H⟩,?_⟩);refine vZ (by kernel_rfl) (xG ?_);have H:=(aw.1 H (Ns.all ⟨n0,⟨n0,⟨n0,⟨n0,⟨n0,trivial⟩⟩⟩⟩⟩));obtain⟨o1,e,az⟩:=xM e;refine oH (fun a w=>∃ (s1:List Line) (v3:Value),o1= .nx s1∧Sk a 63 [(0,oO p),(1,f)]∧Sep Y B A w [bx p [xC D,T,xC E,U,xC I,xC z1,v3,j,xC Q] 129,rw N0 1 (vQ 1 xI) 41 f i.2,rl 4 qY 95 v3 s1,rl 1 xI 2 j C]) ?_ ?_
 ·
  refine oJ ?_;obtain⟨b0,hf1,e⟩:=qP e;refine qK (fun g a w=>∃ (M:Nat) (O:List ArcStep) (X:List Line) (P:Value),(M≤i.1.length∧i.1.drop M=O)∧O.length=g∧qT b0 O M X=some o1∧Sk a 63 [(42,xC (M:Int)),(0,oO p),(1,f),(40,Z),(41,xC (i.1.length:Int))]∧Sep Y B A w [bx p [xC D,T,xC E,U,xC I,xC z1,P,j,xC Q] 129,rl 3 qH 173 Z i.1,rw N0 1 (vQ 1 xI) 41 f i.2,rl 4 qY 95 P X,rl 1 xI 2 j C]) i.1.length ?_ ?_
  ·
   exact⟨0,i.1,V,J,⟨Nat.zero_le _,rfl⟩,rfl,e,F.su,(H.s [0,1,2,4,5] rfl rfl)⟩
  intro g2 a w ⟨M,O,X,P,t,hg1,e,F,H⟩
  cases O with
  | nil=>
   replace e:=qO e;have q1:=qQ t.1 t.2;have l1:=vS q1;refine xV (xA 1 F rfl fun a F=>xJ (xF (zD F rfl l1 (qJ (qM (qM (zQ ?_)))))));refine xG ?_;exact⟨X,P,(zH e),F.su,(H.s [0,2,3,4] rfl rfl)⟩
  | cons n O=>
   subst hg1;replace t:=oZ t.2;have y1:=qX t.2.1;obtain⟨c7,e,b3⟩:=qG e;rw[hf1] at e;have l1:=vE t.1;refine xV (xA 1 F rfl fun a F=>xJ (xF (zC F rfl l1 (xN (xG (xF ?_))))));have j1:=gP (Nat.le_of_lt t.1) i1;have m1:=zU t.1 i1;refine oJ (xV ?_);obtain⟨w2,rfl⟩:∃ x,x=w:=⟨_,rfl⟩;have c8:=H.sm;obtain⟨X3,N2,g3,e2,H,b4,c9⟩:=(H.s [1,0,2,3,4] rfl rfl).fza;have h1:=g3.ld;refine oI underlying170 sizeOf173 F rfl rfl rfl h1 y1 fun a p1 h2 F=>olA isAgg173 sizeOf173 F rfl rfl H.sm h2 fun a v5 h3 F=>oA zeroValue173 F rfl rfl H (fun a w b2 H F=>?_);obtain⟨rfl,i2,i3,i4⟩:=qH.o h3;refine cN (vs:=[xC n.var,xC n.value,xC n.con]) sizeOf173 F rfl rfl rfl H (oc rfl (oc rfl (oc rfl on))) rfl rfl fun w H=>xJ ?_;obtain⟨z4,c3,e⟩:=xB e;obtain⟨w3,rfl⟩:∃ x,x=w:=⟨_,rfl⟩;have ca:=H.sm;obtain⟨X4,N3,g4,e3,H,b5,cb⟩:=H.fza;have K3:=g4.bk;refine xD H (by kernel_rfl) fun w H=>dp (fun G=>∀ (v6:Value) (a:Act) (w:World),Sk a 63 [(0,oO p),(1,f),(40,Z),(41,xC (i.1.length:Int)),(42,xC (M:Int)),(46,oO p),(50,P),(58,v6)]→Sep X4 N3 w3 w [rl 4 qY 95 v6 ([(Line.mk 2 n.var n.value n.con)]),bx p [xC D,T,xC E,U,xC I,xC z1,P,j,xC Q] 129,rw N0 1 (vQ 1 xI) 41 f i.2,rl 4 qY 95 P X,rl 1 xI 2 j C]→∀ ls,ls = #[true,true,true,true,true,true,true,true,true,true,true,true,true,false,false,false,false]→G 4 ls a w) ?_ (fun H1=>?_)
   ·
    intro v6 a w F H ls b6;subst b6;refine xE H 13 rfl (by kernel_rfl) (oPL (sz:=4) (R:=qY) (z:=(.agg #[xC 0,xC 0,xC 0,xC 0])) (bytes:=32) underlying91 (by kernel_rfl) rfl rfl F rfl rfl rfl (H.s [3,0,1,2,4] rfl rfl) c3 fun a w v7 H F=>xJ ⟨⟨_,H⟩,?_⟩);refine qE 14 rfl (by kernel_rfl) (xO F rfl (fun w l=>vM F rfl) fun a F=>qE 15 rfl (by kernel_rfl) (xO F rfl (fun w l=>oM mG F rfl rfl) fun a F=>xE H 16 rfl (by kernel_rfl) (oW sizeOf91 F rfl rfl rfl (H.s [1,0,2,3] rfl rfl) ((H.s [1,0,2,3] rfl rfl).l 1 rfl).one rfl rfl fun w H=>xJ ⟨⟨_,H⟩,?_⟩)));refine vZ (by kernel_rfl) (vH (xG (xY (vP F rfl rfl rfl m1 fun a F=>xA 1 F rfl fun a F=>xJ ?_))));replace e:=vU e b3;exact⟨_,Nat.lt_succ_self _,M+1,O,z4,v7,⟨t.1,t.2.2⟩,rfl,e,F.su,((b4.1 (b5.1 H (Ns.all ⟨n0,⟨n0,⟨n0,⟨n0,trivial⟩⟩⟩⟩)) (Ns.all ⟨n0,⟨n0,⟨n0,⟨n0,⟨n0,trivial⟩⟩⟩⟩⟩)).s [2,0,4,3,5] rfl rfl)⟩
   refine qW 0 rfl (by kernel_rfl) (xO F rfl (fun w l=>xL F rfl) fun a F=>qW 1 rfl (by kernel_rfl) (xO F rfl (fun w l=>xL F rfl) fun a F=>qE 2 rfl (by kernel_rfl) (xO F rfl (fun w l=>vM F rfl) fun a F=>qE 3 rfl (by kernel_rfl) (xO F rfl (fun w l=>oM mG F rfl rfl) fun a F=>qE 5 rfl (by kernel_rfl) (xO F rfl (fun w l=>oM xGx F rfl rfl) fun a F=>qE 6 rfl (by kernel_rfl) ?_)))));refine vB isAgg2 F rfl rfl (K3.v H.sm) rfl fun a F=>qE 7 rfl (by kernel_rfl) (xO F rfl (fun w l=>oM xHk F rfl rfl) fun a F=>qE 8 rfl (by kernel_rfl) (vB isAgg2 F rfl rfl (K3.v H.sm) rfl fun a F=>qE 9 rfl (by kernel_rfl) (xO F rfl (fun w l=>oM xHr F rfl rfl) fun a F=>qE 10 rfl (by kernel_rfl) (vB isAgg2 F rfl rfl (K3.v H.sm) rfl fun a F=>qE 11 rfl (by kernel_rfl) (xO F rfl (fun w l=>wT underlying95 zeroValue95 (fun w=>by simp [sizeOf2];rfl) F rfl rfl rfl rfl (oc rfl (oc rfl (oc rfl (oc rfl on)))) rfl rfl) (fun a F=>?_))))));refine kP [4,12] (by kernel_rfl) (by simp) ⟨⟨_,rfl,?_⟩,⟨_,rfl,?_⟩,trivial⟩
   ·
    refine kJ H (oB isAgg91 F rfl rfl (H.b 0 rfl) rfl fun a F=>xJ ⟨⟨_,H⟩,?_⟩);refine xE H 12 rfl (by kernel_rfl) (cM (R:=qY) (y:=(Line.mk 2 n.var n.value n.con)) underlying91 sizeOf95 zeroValue95 rfl rfl F rfl rfl H (Eo.agg (qY.m (show xS (2) by decide) i2 i3 i4)) fun a w v8 H F=>xJ ⟨⟨_,H⟩,?_⟩);exact H1 v8 _ _ (F.su) H _ (by kernel_rfl)
   refine kJ H (cM (R:=qY) (y:=(Line.mk 2 n.var n.value n.con)) underlying91 sizeOf95 zeroValue95 rfl rfl F rfl rfl H (Eo.agg (qY.m (show xS (2) by decide) i2 i3 i4)) fun a w v9 H F=>xJ ⟨⟨_,H⟩,?_⟩);refine xE H 4 rfl (by kernel_rfl) (oB isAgg91 F rfl rfl (H.b 1 rfl) rfl fun a F=>xJ ⟨⟨_,H⟩,?_⟩);exact H1 v9 _ _ (F.su) H _ (by kernel_rfl)
 rintro a w ⟨s1,v3,rfl,F,H⟩
 have e:=xW az;refine xG (xV (xA 1 F rfl fun a F=>xJ (xR (xT F rfl (oE F rfl) ?_))));obtain rfl:=oj e;exact⟨_,rfl,v3,rfl,(H.s [0,2,3,1] rfl rfl),(kV c1),ad⟩
def jN (d:List (List Int)):Option Int:=
 zR (σ:=Int) (
  qT (σ:=Int) (ρ:=Int) (fun (f:Nat) (e:(List Int)) (c:Int)=>
   zR (σ:=Bool) (
    if (decide (2≤(e.length:Int))) then  if (decide (c<0)) then  some (.nx true) else  xZ (ix d c) fun h=>
      some (.nx (decide ((e.length:Int)<(h.length:Int)))) else  some (.nx false)) fun i=>
   if i then
    some (.go (f:Int))
   else
    some (.go c)) d 0 (-1)) fun j=>
 some j
theorem xAt {B:Nat→Prop} {h:List (List Int)} (r:Int) (d:jN h=some r) {n:Value} (p:World) (U:∀ c,B c→c<p.heap.size) (C:Bo B p (Sl 1 (vQ 1 xI)) n h):Calls Tryz.prog 138 #[n] p (fS r p):=by
 unfold jN at d
 refine xX (L:=[(0,n)]) func138 rfl rfl rfl (sc rfl sn) (fun a F=>?_);have H:=Sep.start U;refine xV (xA 1 F rfl fun a F=>vG (xA 1 F rfl fun a F=>xJ (xF ?_)));refine xV (xA 1 F rfl fun a F=>oL underlying38 F rfl rfl C fun a J F=>xA 1 F rfl fun a F=>xJ ?_);obtain⟨K,d,P⟩:=xM d;refine oH (fun a w=>∃ (y:Int),K= .nx y∧Sk a 33 [(3,xC y)]∧Sep [] B p w []∧xS y) ?_ ?_
 ·
  refine oJ ?_;obtain⟨Q,R,d⟩:=qP d;refine qK (fun g a w=>∃ (f:Nat) (i:List (List Int)) (j:Int),(f≤h.length∧h.drop f=i)∧i.length=g∧qT Q i f j=some K∧Sk a 33 [(8,xC (f:Int)),(0,n),(3,xC j),(6,n),(7,xC (h.length:Int))]∧Sep [] B p w []∧xS j) h.length ?_ ?_
  ·
   exact⟨0,h,(-1),⟨Nat.zero_le _,rfl⟩,rfl,d,F.su,H,(show xS (-1) by decide)⟩
  intro g1 a w ⟨f,i,j,e,S,d,F,H,M⟩
  cases i with
  | nil=>
   replace d:=qO d;have V:=qQ e.1 e.2;have D:=vS V;refine xV (xA 1 F rfl fun a F=>xJ (xF (zD F rfl D (qJ (qM (qM (zQ ?_)))))));refine xG ?_;exact⟨j,(zH d),F.su,H,M⟩
  | cons N i=>
   subst S;replace e:=oZ e.2;have W:=qX e.2.1;obtain⟨a5,d,G⟩:=qG d;rw[R] at d;have D:=vE e.1;refine xV (xA 1 F rfl fun a F=>xJ (xF (zC F rfl D (xN (xG (xF ?_))))));have X:=gP (Nat.le_of_lt e.1) J;have O:=zU e.1 J;refine oJ (xV (xA 1 F rfl fun a F=>oI underlying38 sizeOf41 F rfl rfl rfl C W fun a p1 Y F=>olS isAgg41 F rfl rfl H.sm Y fun a v1 I F=>xA 2 F rfl fun a F=>xJ (xF ?_)));obtain⟨Z,d,T⟩:=xM d;refine oH (fun a w=>∃ (E:Bool),Z= .nx E∧Sk a 33 [(0,n),(3,xC j),(4,xC (f:Int)),(6,n),(7,xC (h.length:Int)),(8,xC (f:Int)),(29,.bool E)]∧Sep [] B p w []) ?_ ?_
   ·
    refine xY (xA 1 F rfl fun a F=>oL underlying41 F rfl rfl I fun a i3 F=>xA 2 F rfl fun a F=>?_)
    rcases vR (decide (2≤(N.length:Int))) with t | t
    ·
     replace d:=vX t d;have F:=F.eb 16 rfl t;refine xA 3 F rfl fun a F=>?_
     rcases vR (decide (j<0)) with x | x
     ·
      replace d:=vX x d;have F:=F.eb 19 rfl x;refine xA 10 F rfl fun a F=>qU ?_;refine xG ?_;exact⟨true,(zH d),F.su,H⟩
     replace d:=vW x d;have F:=F.eb 19 rfl x;refine xA 1 F rfl fun a F=>oL underlying41 F rfl rfl I fun a i4 F=>xA 2 F rfl fun a F=>?_;obtain⟨z1,c1,d⟩:=xB d;refine oI underlying38 sizeOf41 F rfl rfl rfl C c1 fun a p2 h2 F=>olS isAgg41 F rfl rfl H.sm h2 fun a v2 h3 F=>oL underlying41 F rfl rfl h3 fun a i5 F=>xA 3 F rfl fun a F=>xJ ?_;exact⟨(decide ((N.length:Int)<(z1.length:Int))),(zH d),F.su,H⟩
    replace d:=vW t d;have F:=F.eb 16 rfl t;refine xA 11 F rfl fun a F=>?_;refine xA 2 F rfl fun a F=>xJ ?_;exact⟨false,(zH d),F.su,H⟩
   rintro a w ⟨E,rfl,F,H⟩
   have d:=xW T;refine xG (qV F rfl (fun A=>?_) (fun A=>?_))
   ·
    replace d:=vX A d;refine xY (xA 2 F rfl fun a F=>qU (vH (xG (xY (vP F rfl rfl rfl O fun a F=>xA 1 F rfl fun a F=>xJ ?_)))));replace d:=vU d G;exact⟨_,Nat.lt_succ_self _,f+1,i,(f:Int),⟨e.1,e.2.2⟩,rfl,d,F.su,H,X⟩
   replace d:=vW A d;refine xN (vH (xG (xY (vP F rfl rfl rfl O fun a F=>xA 1 F rfl fun a F=>xJ ?_))));replace d:=vU d G;exact⟨_,Nat.lt_succ_self _,f+1,i,j,⟨e.1,e.2.2⟩,rfl,d,F.su,H,M⟩
 rintro a w ⟨y,rfl,F,H,i6⟩
 have d:=xW P;refine xG (xV (xA 2 F rfl fun a F=>xJ (xR (xT F rfl (oE F rfl) ?_))));obtain rfl:=oj d;exact⟨⟨rfl,H.bl⟩,i6⟩
def eC (c:List (List Int)):Option (List (List Int)):=
 zR (σ:=(List (List Int))) (
  qT (σ:=(List (List Int))) (ρ:=(List (List Int))) (fun (j:Nat) (d:(List Int)) (e:(List (List Int)))=>
   xZ (vA d) fun f=>
   xZ (ap e ([f])) fun h=>
   some (.go h)) c 0 []) fun i=>
 some i
theorem jV {B:Nat→Prop} {f:List (List Int)} (r:(List (List Int))) (d:eC f=some r) {n:Value} (i:World) (Q:∀ c,B c→c<i.heap.size) (G:Bo B i (Sl 1 (vQ 1 xI)) n f):Calls Tryz.prog 85 #[n] i (Gv (fun v w'=>∃ (D:Value),v=D∧Sep [] B i w' [rl 1 (vQ 1 xI) 41 D r])):=by
 unfold eC at d
 refine xX (L:=[(0,n)]) func85 rfl rfl rfl (sc rfl sn) (fun a F=>?_);have H:=Sep.start Q;refine xV (xA 1 F rfl fun a F=>vG (oR0 (R:=(vQ 1 xI)) underlying38 sizeOf41 F rfl H fun a w T H F=>xA 1 F rfl fun a F=>xJ ?_));refine xF (xV (xA 1 F rfl fun a F=>oL underlying38 F rfl rfl G fun a I F=>xA 1 F rfl fun a F=>xJ ?_));obtain⟨E,d,K⟩:=xM d;refine oH (fun a w=>∃ (A:List (List Int)) (p:Value),E= .nx A∧Sk a 20 [(3,p)]∧Sep [] B i w [rl 1 (vQ 1 xI) 41 p A]) ?_ ?_
 ·
  refine oJ ?_;obtain⟨M,N,d⟩:=qP d;refine qK (fun g a w=>∃ (j:Nat) (h t:List (List Int)) (x:Value),(j≤f.length∧f.drop j=h)∧h.length=g∧qT M h j t=some E∧Sk a 20 [(9,xC (j:Int)),(3,x),(7,n),(8,xC (f.length:Int))]∧Sep [] B i w [rl 1 (vQ 1 xI) 41 x t]) f.length ?_ ?_
  ·
   exact⟨0,f,[],T,⟨Nat.zero_le _,rfl⟩,rfl,d,F.su,H⟩
  intro g1 a w ⟨j,h,t,x,e,O,d,F,H⟩
  cases h with
  | nil=>
   replace d:=qO d;have U:=qQ e.1 e.2;have C:=vS U;refine xV (xA 1 F rfl fun a F=>xJ (xF (zD F rfl C (qJ (qM (qM (zQ ?_)))))));refine xG ?_;exact⟨t,x,(zH d),F.su,H⟩
  | cons x1 h=>
   subst O;replace e:=oZ e.2;have V:=qX e.2.1;obtain⟨a4,d,P⟩:=qG d;rw[N] at d;have C:=vE e.1;refine xV (xA 1 F rfl fun a F=>xJ (xF (zC F rfl C (xN (xG (xF ?_))))));have j1:=gP (Nat.le_of_lt e.1) I;have W:=zU e.1 I;refine oJ (xV (oI underlying38 sizeOf41 F rfl rfl rfl G V fun a p1 X F=>olS isAgg41 F rfl rfl H.sm X fun a v4 Y F=>xA 1 F rfl fun a F=>xJ (xY (xA 2 F rfl fun a F=>?_))));obtain⟨J,Z,d⟩:=xB d;refine oG F rfl call86 rfl (zO J Z _ aA (H.a Y)) (fun a vv w ⟨v5,a5,S⟩ F=>?_);subst vv;have H:=H.r1 S n0;have H:=H.os;refine eZ (R:=(vQ 1 xI)) (y:=J) underlying38 sizeOf41 zeroValue41 rfl rfl F rfl rfl H El.sl (fun a w v6 H F=>?_);obtain⟨z2,c2,d⟩:=xB d;refine oPL (sz:=1) (R:=(vQ 1 xI)) (z:=(qD)) (bytes:=24) underlying38 (by kernel_rfl) rfl rfl F rfl rfl rfl (H.s [1,0] rfl rfl) c2 fun a w v7 H F=>xA 1 F rfl fun a F=>qU (vH (xG (xY (vP F rfl rfl rfl W fun a F=>xA 1 F rfl fun a F=>xJ ?_))));replace d:=vU d P;exact⟨_,Nat.lt_succ_self _,j+1,h,z2,v7,⟨e.1,e.2.2⟩,rfl,d,F.su,H⟩
 rintro a w ⟨A,p,rfl,F,H⟩
 have d:=xW K;refine xG (xV (xA 2 F rfl fun a F=>xJ (xR (xT F rfl (oE F rfl) ?_))));obtain rfl:=oj d;exact⟨_,rfl,p,rfl,H⟩
def aB:Nat→Int→(List Rel)→Int→(List Con)→Int→Int→(List Line)→(List Int)→Int→(List (List Int))→Option (Bool×Int×(List Line)×(List Int)×Int×(List (List Int)))
  | 0,_,_,_,_,_,_,_,_,_,_=>none
  | N+1,i,j,n,p,t,B,C,D,E,J=>
  zR (σ:=(List (List Int))×Int×(List Line)×(List Int)×Int) (
   fA (σ:=(List (List Int))×Int×(List Line)×(List Int)×Int) (ρ:=Bool×Int×(List Line)×(List Int)×Int×(List (List Int))) (fun(s:(List (List Int))×Int×(List Line)×(List Int)×Int)=>
     match s with
     | (K,L,M,f,O)=>
     xZ (dG N i j n p t L M f O K) fun c=>
     if c.1 then
      xZ (zJ c.2.2.2.2 (fun P=>fF P)) fun y=>
      if (decide (0≤y)) then
       xZ (ap c.2.2.1 ([(Line.mk 3 y 0 0)])) fun Q=>
       some (.ret (true,c.2.1,Q,f,c.2.2.2.1,c.2.2.2.2))
      else
       xZ (jN c.2.2.2.2) fun e=>
       if (decide (e<0)) then
        zR (σ:=(List Int)) (
         qT (σ:=(List Int)) (ρ:=(Ctl ((List (List Int))×Int×(List Line)×(List Int)×Int) (Bool×Int×(List Line)×(List Int)×Int×(List (List Int))))) (fun (k1:Nat) (R S:(List Int))=>
          xZ (ix R 0) fun T=>
          xZ (ap S ([T])) fun U=>
          some (.go U)) c.2.2.2.2 0 []) fun V=>
        some (.ret (false,c.2.1,c.2.2.1,V,c.2.2.2.1,c.2.2.2.2))
       else
        xZ (ix c.2.2.2.2 e) fun A=>
        xZ (ix A 0) fun h=>
        xZ (ap c.2.2.1 ([(Line.mk 1 e h 0)])) fun W=>
        xZ (eC c.2.2.2.2) fun x=>
        xZ (ix x e) fun Z=>
        xZ (aB N i j n p t c.2.1 W f c.2.2.2.1 (x.set (e).toNat ([h]))) fun d=>
        if (!d.1) then
         some (.ret (false,d.2.1,d.2.2.1,d.2.2.2.1,d.2.2.2.2.1,c.2.2.2.2))
        else
         xZ (aP N A h) fun F=>
         some (.go ((c.2.2.2.2.set (e).toNat F),d.2.1,d.2.2.1,d.2.2.2.1,d.2.2.2.2.1))
     else
      some (.brk (c.2.2.2.2,c.2.1,c.2.2.1,f,c.2.2.2.1))) N (J,B,C,D,E)) fun(X,Y,G,H,I)=>
  some (false,Y,G,H,I,X)
theorem nY:∀ (N:Nat) {B:Nat→Prop} {n:Int} {a7:List Rel} {p:Int} {a8:List Con} {t X:Int} {Z:List Line} {x0_7:List Int} {Y:Int} {x1:List (List Int)} (r:Bool×Int×(List Line)×(List Int)×Int×(List (List Int))) (d:aB N n a7 p a8 t X Z x0_7 Y x1=some r) {i:Nat} {C:Value} {D:Value} {a9:Value} {aa:Value} {j:Value} {O:List Nat} (A:World) (hN:∀ c,B c→c<A.heap.size) (S0:Sep O B A A [bx i [xC n,C,xC p,D,xC t,xC X,a9,aa,xC Y] 129,rl 4 qY 95 a9 Z,rl 1 xI 2 aa x0_7,rw N0 1 (vQ 1 xI) 41 j x1]) (aq:xS n) (ar:Bo B A (Sl 2 oV) C a7) (au:xS p) (av:Bo B A (Sl 2 oR) D a8) (aw:xS t) (bb:xS X) (bc:xS Y),Calls Tryz.prog 107 #[oO i,j] A (Gv (fun v w'=>∃ (bd be:Value),v= .bool r.1∧Sep O B A w' [bx i [xC n,C,xC p,D,xC t,xC r.2.1,bd,be,xC r.2.2.2.2.1] 129,rl 4 qY 95 bd r.2.2.1,rl 1 xI 2 be r.2.2.2.1,rw N0 1 (vQ 1 xI) 41 j r.2.2.2.2.2]∧xS r.2.1∧xS r.2.2.2.2.1)):=by
  intro N
  induction N with
  | zero=>intro B n a7 p a8 t X Z x0_7 Y x1 r d;unfold aB at d;cases d
  | succ N ih=>
  intro B n a7 p a8 t X Z x0_7 Y x1 r d i C D a9 aa j O A hN S0 aq ar au av aw bb bc;rw[aB] at d;refine xX (L:=[(0,oO i),(1,j)]) func107 rfl rfl rfl (sc rfl (sc rfl sn)) (fun a F=>?_);have H:=S0;refine xV (xA 1 F rfl fun a F=>xJ (xF ?_));obtain⟨o1,d,ab⟩:=xM d;refine oH (fun a w=>∃ (s1:List (List Int)) (s2:Int) (s3:List Line) (v2:Value) (s4:List Int) (v3:Value) (s5:Int),o1= .nx (s1,s2,s3,s4,s5)∧Sk a 94 [(0,oO i),(1,j)]∧Sep O B A w [bx i [xC n,C,xC p,D,xC t,xC s2,v2,v3,xC s5] 129,rl 4 qY 95 v2 s3,rl 1 xI 2 v3 s4,rw N0 1 (vQ 1 xI) 41 j s1]∧xS s2∧xS s5) ?_ ?_
  ·
   refine oJ ?_;obtain⟨c0,hf1,d⟩:=bJ d;refine qK (fun g a w=>∃ (s6:List (List Int)) (s7:Int) (s8:List Line) (v4:Value) (Q:List Int) (E:Value) (a1:Int),fA c0 g (s6,s7,s8,Q,a1)=some o1∧Sk a 94 [(0,oO i),(1,j)]∧Sep O B A w [bx i [xC n,C,xC p,D,xC t,xC s7,v4,E,xC a1] 129,rl 4 qY 95 v4 s8,rl 1 xI 2 E Q,rw N0 1 (vQ 1 xI) 41 j s6]∧xS s7∧xS a1) N ?_ ?_
   ·
    exact⟨x1,X,Z,a9,x0_7,aa,Y,d,F.su,H,bb,bc⟩
   intro g1 a w ⟨s6,s7,s8,v4,Q,E,a1,d,F,H,i1,i2⟩;obtain⟨dq,t1,dr,d,a2⟩:=kR d;rw[hf1] at d;refine xF (xV (xA 2 F rfl fun a F=>?_));obtain⟨f,c1,d⟩:=xB d;obtain⟨X1,K1,bk1⟩:=Sep.lend (K:=[bx i [xC n,C,xC p,D,xC t,xC s7,v4,E,xC a1] 129,rl 4 qY 95 v4 s8,rl 1 xI 2 E Q,rw N0 1 (vQ 1 xI) 41 j s6]) (L:=[]) H;refine oG F rfl call135 rfl (pZ f c1 _ H.hN K1 aq (H.u ar) au (H.u av) aw i1 i2) (fun a T w ⟨M,ds,S,i3,i4⟩ F=>?_);subst T;have H:Sep O B A w [bx i [xC n,C,xC p,D,xC t,xC f.2.1,M,E,xC f.2.2.2.1] 129,rl 4 qY 95 M f.2.2.1,rl 1 xI 2 E Q,rw N0 1 (vQ 1 xI) 41 j f.2.2.2.2]:=bk1 S;refine xJ (qV F rfl (fun ax=>?_) (fun ax=>?_))
   ·
    replace d:=vX ax d;refine xN (xG (oJ (xF (xV (xA 1 F rfl fun a F=>?_)))));obtain⟨z2,c2,d⟩:=xB d;refine oKI F rfl call136 rfl H (cT z2 c2 _ aA (H.r 3 rfl) call137 (fun a0 r h W l1 u0 f0=>pW r h W aA f0)) fun a w H iz1 F=>xA 1 F rfl fun a F=>vG (xA 2 F rfl fun a F=>xJ (qV F rfl (fun ay=>?_) (fun ay=>?_)))
    ·
     replace d:=vX ay d;refine xV (xA 2 F rfl fun a F=>vO F rfl rfl fun a F=>oD mG F rfl rfl rfl fun a F=>oB isAgg91 F rfl rfl (H.b 0 rfl) rfl fun a F=>xA 1 F rfl fun a F=>vY underlying95 zeroValue95 (fun w=>by simp [sizeOf2];rfl) F rfl rfl rfl rfl rfl (oc rfl (oc rfl on)) rfl rfl fun a F=>cM (R:=qY) (y:=(Line.mk 3 z2 0 0)) underlying91 sizeOf95 zeroValue95 rfl rfl F rfl rfl H (Eo.agg (qY.m (show xS (3) by decide) iz1 (show xS 0 by decide) (show xS 0 by decide))) (fun a w v7 H F=>?_));obtain⟨z3,c3,d⟩:=xB d;refine oPL (sz:=4) (R:=qY) (z:=(.agg #[xC 0,xC 0,xC 0,xC 0])) (bytes:=32) underlying91 (by kernel_rfl) rfl rfl F rfl rfl rfl (H.s [2,0,1,3,4] rfl rfl) c3 fun a w v8 H F=>vO F rfl rfl fun a F=>oD mG F rfl rfl rfl fun a F=>oW sizeOf91 F rfl rfl rfl (H.s [1,0,2,3] rfl rfl) ((H.s [1,0,2,3] rfl rfl).l 1 rfl).one rfl rfl fun w H=>vG (xA 1 F rfl fun a F=>xJ ?_);refine xR (oQ (vT (oQ ?_)));replace d:=kD d a2;refine vT (oQ ?_);replace d:=zZ d ab;refine oQ (xT F rfl (oE F rfl) ?_);obtain rfl:=oj d;exact⟨_,rfl,v8,E,rfl,H,i3,i4⟩
    replace d:=vW ay d;refine xN (xG (xV (xA 1 F rfl fun a F=>?_)));obtain⟨z4,c4,d⟩:=xB d;refine oKI F rfl call138 rfl H (xAt z4 c4 _ aA (H.r 3 rfl)) fun a w H iz2 F=>xA 1 F rfl fun a F=>xJ (xF (xV (xA 2 F rfl fun a F=>xJ ?_)));refine qV F rfl (fun az=>?_) (fun az=>?_)
    ·
     replace d:=vX az d;refine xV (xA 1 F rfl fun a F=>oR0 (R:=xI) underlying41 sizeOf2 F rfl H fun a w v9 H F=>vO F rfl rfl fun a F=>oD wU F rfl rfl rfl fun a F=>oW sizeOf41 F rfl rfl rfl (H.s [1,0,2,3,4] rfl rfl) ((H.s [1,0,2,3,4] rfl rfl).l 1 rfl).one rfl rfl fun w H=>xJ (xF (xF ?_)));refine xY (xA 1 F rfl fun a F=>oL underlying38 F rfl rfl (H.r 4 rfl) fun a i5 F=>xA 1 F rfl fun a F=>xJ ?_);obtain⟨o2,d,hk2⟩:=xM d;refine oH (fun a w=>∃ (b0:List Int) (ac:Value),o2= .nx b0∧Sk a 94 [(0,oO i),(1,j)]∧Sep O B A w [bx i [xC n,C,xC p,D,xC t,xC f.2.1,M,ac,xC f.2.2.2.1] 129,rl 1 xI 2 ac b0,rl 4 qY 95 M f.2.2.1,rw N0 1 (vQ 1 xI) 41 j f.2.2.2.2]) ?_ ?_
     ·
      refine oJ ?_;obtain⟨fl2,hf2,d⟩:=qP d;refine qK (fun g a w=>∃ (U:Nat) (V:List (List Int)) (a3:List Int) (P:Value),(U≤f.2.2.2.2.length∧f.2.2.2.2.drop U=V)∧V.length=g∧qT fl2 V U a3=some o2∧Sk a 94 [(39,xC (U:Int)),(0,oO i),(1,j),(37,j),(38,xC (f.2.2.2.2.length:Int))]∧Sep O B A w [bx i [xC n,C,xC p,D,xC t,xC f.2.1,M,P,xC f.2.2.2.1] 129,rl 1 xI 2 P a3,rl 4 qY 95 M f.2.2.1,rw N0 1 (vQ 1 xI) 41 j f.2.2.2.2]) f.2.2.2.2.length ?_ ?_
      ·
       exact⟨0,f.2.2.2.2,[],v9,⟨Nat.zero_le _,rfl⟩,rfl,d,F.su,(H.s [0,1,2,4] rfl rfl)⟩
      intro g2 a w ⟨U,V,a3,P,I,hg2,d,F,H⟩
      cases V with
      | nil=>
       replace d:=qO d;have q1:=qQ I.1 I.2;have l2:=vS q1;refine xV (xA 1 F rfl fun a F=>xJ (xF (zD F rfl l2 (qJ (qM (qM (zQ ?_)))))));refine xG ?_;exact⟨a3,P,(zH d),F.su,H⟩
      | cons x2 V=>
       subst hg2;replace I:=oZ I.2;have y1:=qX I.2.1;obtain⟨du,d,hn2⟩:=qG d;rw[hf2] at d;have l2:=vE I.1;refine xV (xA 1 F rfl fun a F=>xJ (xF (zC F rfl l2 (xN (xG (xF ?_))))));have j1:=gP (Nat.le_of_lt I.1) i5;have m1:=zU I.1 i5;refine oJ (xV ?_);obtain⟨w1,rfl⟩:∃ x,x=w:=⟨_,rfl⟩;have dw:=H.sm;obtain⟨X2,N1,g3,e1,H,ca,dx⟩:=(H.s [3,0,1,2] rfl rfl).fza;have h1:=g3.rd;refine oI underlying38 sizeOf41 F rfl rfl rfl h1 y1 fun a p1 h2 F=>olS isAgg41 F rfl rfl H.sm h2 fun a dy h3 F=>xA 1 F rfl fun a F=>xJ ?_;obtain⟨z5,c5,d⟩:=xB d;obtain⟨z6,c6,d⟩:=xB d;refine xD H (by kernel_rfl) fun w H=>dp (fun G=>∀ (b1:Value) (a:Act) (w:World),Sk a 94 [(0,oO i),(1,j),(37,j),(38,xC (f.2.2.2.2.length:Int)),(39,xC (U:Int)),(43,oO i),(47,P),(51,b1)]→Sep X2 N1 w1 w [rl 1 xI 2 b1 ([z5]),bx i [xC n,C,xC p,D,xC t,xC f.2.1,M,P,xC f.2.2.2.1] 129,rl 1 xI 2 P a3,rl 4 qY 95 M f.2.2.1]→∀ ls,ls = #[true,true,true,true,true,true,true,true,true,false,false,false,false]→G 4 ls a w) ?_ (fun H1=>?_)
       ·
        intro b1 a w F H ls cb;subst cb;refine xE H 9 rfl (by kernel_rfl) (oPL (sz:=1) (R:=xI) (z:=(xC 0)) (bytes:=8) underlying41 (by kernel_rfl) rfl rfl F rfl rfl rfl (H.s [2,0,1,3] rfl rfl) c6 fun a w cc H F=>xJ ⟨⟨_,H⟩,?_⟩);refine qE 10 rfl (by kernel_rfl) (xO F rfl (fun w l=>vM F rfl) fun a F=>qE 11 rfl (by kernel_rfl) (xO F rfl (fun w l=>oM wU F rfl rfl) fun a F=>xE H 12 rfl (by kernel_rfl) (oW sizeOf41 F rfl rfl rfl (H.s [1,0,2] rfl rfl) ((H.s [1,0,2] rfl rfl).l 1 rfl).one rfl rfl fun w H=>xJ ⟨⟨_,H⟩,?_⟩)));refine vZ (by kernel_rfl) (vH (xG (xY (vP F rfl rfl rfl m1 fun a F=>xA 1 F rfl fun a F=>xJ ?_))));replace d:=vU d hn2;exact⟨_,Nat.lt_succ_self _,U+1,V,z6,cc,⟨I.1,I.2.2⟩,rfl,d,F.su,((ca.1 H (Ns.all ⟨n0,⟨n0,⟨n0,trivial⟩⟩⟩)).s [1,2,3,0] rfl rfl)⟩
       refine qW 0 rfl (by kernel_rfl) (xO F rfl (fun w l=>xL F rfl) fun a F=>qW 1 rfl (by kernel_rfl) (xO F rfl (fun w l=>xL F rfl) fun a F=>qE 2 rfl (by kernel_rfl) (xO F rfl (fun w l=>vM F rfl) fun a F=>qE 3 rfl (by kernel_rfl) (xO F rfl (fun w l=>oM wU F rfl rfl) fun a F=>qW 5 rfl (by kernel_rfl) (xO F rfl (fun w l=>xL F rfl) fun a F=>qE 6 rfl (by kernel_rfl) ?_)))));refine vI underlying41 sizeOf2 F rfl rfl rfl h3 c5 fun a p2 h4 F=>qE 7 rfl (by kernel_rfl) (vlI isAgg2 F rfl rfl H.v h4 fun a i6 F=>kP [4,8] (by kernel_rfl) (by simp) ⟨⟨_,rfl,?_⟩,⟨_,rfl,?_⟩,trivial⟩)
       ·
        refine kJ H (oB isAgg41 F rfl rfl (H.b 0 rfl) rfl fun a F=>xJ ⟨⟨_,H⟩,?_⟩);refine xE H 8 rfl (by kernel_rfl) (cM (R:=xI) (y:=z5) underlying41 sizeOf2 zeroValue2 rfl rfl F rfl rfl H (Eo.int i6) fun a w cd H F=>xJ ⟨⟨_,H⟩,?_⟩);exact H1 cd _ _ (F.su) H _ (by kernel_rfl)
       refine kJ H (cM (R:=xI) (y:=z5) underlying41 sizeOf2 zeroValue2 rfl rfl F rfl rfl H (Eo.int i6) fun a w ce H F=>xJ ⟨⟨_,H⟩,?_⟩);refine xE H 4 rfl (by kernel_rfl) (oB isAgg41 F rfl rfl (H.b 1 rfl) rfl fun a F=>xJ ⟨⟨_,H⟩,?_⟩);exact H1 ce _ _ (F.su) H _ (by kernel_rfl)
     rintro a w ⟨b0,ac,rfl,F,H⟩
     have d:=xW hk2;refine xG (xV (xA 1 F rfl fun a F=>xJ (xR (oQ (vT (oQ ?_))))));replace d:=kD d a2;refine vT (oQ ?_);replace d:=zZ d ab;refine oQ (xT F rfl (oE F rfl) ?_);obtain rfl:=oj d;exact⟨_,rfl,M,ac,rfl,(H.s [0,2,1,3] rfl rfl),i3,i4⟩
    replace d:=vW az d;refine xN (xG (xV (xA 2 F rfl fun a F=>?_)));obtain⟨z7,c7,d⟩:=xB d;refine oI underlying38 sizeOf41 F rfl rfl rfl (H.r 3 rfl) c7 fun a p3 h5 F=>olS isAgg41 F rfl rfl (Sm.refl _ _) h5 (fun a dz h6 F=>?_);obtain⟨z8,c8,d⟩:=xB d;refine oI underlying41 sizeOf2 F rfl rfl rfl h6 c8 fun a p4 h7 F=>olI isAgg2 F rfl rfl (Sm.refl _ _) h7 fun a i7 F=>xA 1 F rfl fun a F=>vG (xA 2 F rfl fun a F=>vO F rfl rfl fun a F=>oD mG F rfl rfl rfl (fun a F=>?_));refine oB isAgg91 F rfl rfl (H.b 0 rfl) rfl fun a F=>xA 2 F rfl fun a F=>vY underlying95 zeroValue95 (fun w=>by simp [sizeOf2];rfl) F rfl rfl rfl rfl rfl (oc rfl (oc rfl (oc rfl on))) rfl rfl fun a F=>cM (R:=qY) (y:=(Line.mk 1 z4 z8 0)) underlying91 sizeOf95 zeroValue95 rfl rfl F rfl rfl H (Eo.agg (qY.m (show xS (1) by decide) iz2 i7 (show xS 0 by decide))) (fun a w e0 H F=>?_);obtain⟨z9,c9,d⟩:=xB d;refine oPL (sz:=4) (R:=qY) (z:=(.agg #[xC 0,xC 0,xC 0,xC 0])) (bytes:=32) underlying91 (by kernel_rfl) rfl rfl F rfl rfl rfl (H.s [2,0,1,3,4] rfl rfl) c9 fun a w bf H F=>vO F rfl rfl fun a F=>oD mG F rfl rfl rfl fun a F=>oW sizeOf91 F rfl rfl rfl (H.s [1,0,2,3] rfl rfl) ((H.s [1,0,2,3] rfl rfl).l 1 rfl).one rfl rfl fun w H=>vG (xA 1 F rfl fun a F=>?_);obtain⟨bg,cf,d⟩:=xB d;refine oG F rfl call85 rfl (jV bg cf _ aA (H.r 3 rfl)) (fun a T w ⟨bh,hv2,S⟩ F=>?_);subst T;have H:=H.r1 S n0;refine xA 1 F rfl fun a F=>vG (xA 3 F rfl fun a F=>cM (R:=xI) (y:=z8) underlying41 sizeOf2 zeroValue2 rfl rfl F rfl rfl H (Eo.int i7) (fun a w e2 H F=>?_));obtain⟨e3,bi,d⟩:=xB d;refine oRl underlying38 sizeOf41 F rfl rfl rfl H 1 rfl bi (fun a p5 h8 cg F=>?_);have H:=(H.s [1,0,2,3,4,5] rfl rfl).lw;refine oSc sizeOf41 F rfl rfl rfl H cg (fZ bi) n0 (fun e q=>(Eo.sl q.ld)) (H.l 1 rfl).one rfl fun w H=>xJ (xF (xV (xA 2 F rfl fun a F=>?_)));obtain⟨J,ch,d⟩:=xB d;obtain⟨X3,K2,ci⟩:=Sep.lend (K:=[bx i [xC n,C,xC p,D,xC t,xC f.2.1,bf,E,xC f.2.2.2.1] 129,rl 4 qY 95 bf z9,rl 1 xI 2 E Q,rw N0 1 (vQ 1 xI) 41 bh (bg.set (z4).toNat ([z8]))]) (L:=[rw N0 1 (vQ 1 xI) 41 j f.2.2.2.2]) (H.s [1,2,3,0,4] rfl rfl);refine oG F rfl call107 rfl (ih J ch _ H.hN K2 aq (H.u ar) au (H.u av) aw i3 i4) (fun a T w ⟨ad,ae,e4,S,i8,i9⟩ F=>?_);subst T;have H:Sep O B A w [bx i [xC n,C,xC p,D,xC t,xC J.2.1,ad,ae,xC J.2.2.2.2.1] 129,rl 4 qY 95 ad J.2.2.1,rl 1 xI 2 ae J.2.2.2.1,rw N0 1 (vQ 1 xI) 41 bh J.2.2.2.2.2,rw N0 1 (vQ 1 xI) 41 j f.2.2.2.2]:=ci S;refine xA 1 F rfl fun a F=>xJ (qV F rfl (fun b2=>?_) (fun b2=>?_))
    ·
     replace d:=vX b2 d;refine xV (xA 1 F rfl fun a F=>xJ (xR (oQ (vT (oQ ?_)))));replace d:=kD d a2;refine vT (oQ ?_);replace d:=zZ d ab;refine oQ (xT F rfl (oE F rfl) ?_);obtain rfl:=oj d;exact⟨_,rfl,ad,ae,rfl,(H.s [0,1,2,4] rfl rfl),i8,i9⟩
    replace d:=vW b2 d;refine xN (xG (xY (xA 4 F rfl fun a F=>oI underlying38 sizeOf41 F rfl rfl rfl (H.r 4 rfl) c7 fun a p6 h9 F=>olS isAgg41 F rfl rfl (Sm.refl _ _) h9 fun a e5 cj F=>xA 1 F rfl fun a F=>?_)));obtain⟨bj,cl,d⟩:=xB d;refine oG F rfl call50 rfl (lU bj cl _ aA cj i7) (fun a T w ⟨e6,e7,S⟩ F=>?_);subst T;have H:=H.r1 S n0;refine oRi underlying38 sizeOf41 F rfl rfl rfl H 5 rfl c7 fun a p7 e8 cm F=>oSc sizeOf41 F rfl rfl rfl (H.s [5,0,1,2,3,4] rfl rfl) cm (fZ c7) n0 (fun e q=>(Eo.sl q.ld)) ((H.s [5,0,1,2,3,4] rfl rfl).l 1 rfl).one rfl fun w H=>qU (vH (xG ?_));replace d:=vU d a2;exact⟨t1,(by omega),(f.2.2.2.2.set (z4).toNat bj),J.2.1,J.2.2.1,ad,J.2.2.2.1,ae,J.2.2.2.2.1,d,F.su,(H.s [1,2,3,0] rfl rfl),i8,i9⟩
   replace d:=vW ax d;refine qJ (qM (qM ?_));replace d:=gV d a2;refine zQ (xG ?_);exact⟨f.2.2.2.2,f.2.1,f.2.2.1,M,Q,E,f.2.2.2.1,(zH d),F.su,H,i3,i4⟩
  rintro a w ⟨s1,s2,s3,v2,s4,v3,s5,rfl,F,H,cn,co⟩
  have d:=xW ab;refine xG (xV (xA 1 F rfl fun a F=>xJ (xR (xT F rfl (oE F rfl) ?_))));obtain rfl:=oj d;exact⟨_,rfl,v2,v3,rfl,H,cn,co⟩
theorem pI {B:Nat→Prop} {N:Nat} {e:Int} {y:List Rel} {f:Int} {A:List Con} {h i:Int} {C:List Line} {D:List Int} {j:Int} {I:List (List Int)} (r:Bool×Int×(List Line)×(List Int)×Int×(List (List Int))) (S:aB N e y f A h i C D j I=some r) {t:Nat} {n:Value} {p:Value} {E:Value} {F:Value} {x:Value} {J:List Nat} (d:World) (T:∀ c,B c→c<d.heap.size) (U:Sep J B d d [bx t [xC e,n,xC f,p,xC h,xC i,E,F,xC j] 129,rl 4 qY 95 E C,rl 1 xI 2 F D,rw N0 1 (vQ 1 xI) 41 x I]) (K:xS e) (L:Bo B d (Sl 2 oV) n y) (M:xS f) (O:Bo B d (Sl 2 oR) p A) (P:xS h) (Q:xS i) (R:xS j):Calls Tryz.prog 107 #[oO t,x] d (Gv (fun v w'=>∃ (G H:Value),v= .bool r.1∧Sep J B d w' [bx t [xC e,n,xC f,p,xC h,xC r.2.1,G,H,xC r.2.2.2.2.1] 129,rl 4 qY 95 G r.2.2.1,rl 1 xI 2 H r.2.2.2.1,rw N0 1 (vQ 1 xI) 41 x r.2.2.2.2.2]∧xS r.2.1∧xS r.2.2.2.2.1)):=
  nY N r S d T U K L M O P Q R
def eH (N:Nat) (d:Template) (e:Instance) (h:List (List Int)) (f:Int):Option ((Int×(List Rel)×Int×(List Con)×Int×Int×(List Line)×(List Int)×Int)×(List (List Int))):=
 xZ (aB N d.size d.rels e.vars e.cons f 0 ([]) ([]) 0 h) fun c=>
 if c.1 then
  some ((d.size,d.rels,e.vars,e.cons,f,c.2.1,c.2.2.1,c.2.2.2.1,6),c.2.2.2.2.2)
 else
  some ((d.size,d.rels,e.vars,e.cons,f,c.2.1,c.2.2.1,c.2.2.2.1,c.2.2.2.2.1),c.2.2.2.2.2)
theorem lB {B:Nat→Prop} {N:Nat} {h:Template} {i:Instance} {E:List (List Int)} {j:Int} (r:(Int×(List Rel)×Int×(List Con)×Int×Int×(List Line)×(List Int)×Int)×(List (List Int))) (e:eH N h i E j=some r) {G:Value} {I:Value} {p:Value} {J:List Nat} (d:World) (hN:∀ c,B c→c<d.heap.size) (S0:Sep J B d d [rw N0 1 (vQ 1 xI) 41 p E]) (A0:Bo B d (kK 2 xH) G h) (A1:Bo B d (kK 2 xK) I i) (C:xS j):Calls Tryz.prog 74 #[G,I,p,xC j] d (Gv (fun v w'=>∃ (R:Nat) (T U V W:Value),v=oO R∧Sep J B d w' [bx R [xC r.1.1,T,xC r.1.2.2.1,U,xC r.1.2.2.2.2.1,xC r.1.2.2.2.2.2.1,V,W,xC r.1.2.2.2.2.2.2.2.2] 129,rl 4 qY 95 V r.1.2.2.2.2.2.2.1,rl 1 xI 2 W r.1.2.2.2.2.2.2.2.1,rw N0 1 (vQ 1 xI) 41 p r.2]∧xS r.1.1∧Bo B d (Sl 2 oV) T r.1.2.1∧xS r.1.2.2.1∧Bo B d (Sl 2 oR) U r.1.2.2.2.1∧xS r.1.2.2.2.2.1∧xS r.1.2.2.2.2.2.1∧xS r.1.2.2.2.2.2.2.2.2)):=by
 unfold eH at e
 refine xX (L:=[(0,G),(1,I),(2,p),(3,xC j)]) func74 rfl rfl rfl (sc rfl (sc rfl (sc rfl (sc rfl sn)))) (fun a F=>?_);have H:=S0;refine xV ?_;obtain⟨n,rfl,M,O⟩:=xH.o A0;refine oX F rfl rfl rfl H (fun a w X H F=>?_);obtain⟨f,rfl,P,Q⟩:=xK.o A1;refine oX F rfl rfl rfl H fun a w Y H F=>xA 1 F rfl fun a F=>vG (dJ isAgg26 sizeOf26 F rfl rfl (H.b 1 rfl) rfl rfl fun a F=>dJ isAgg29 sizeOf29 F rfl rfl (H.b 0 rfl) rfl rfl fun a F=>xA 1 F rfl fun a F=>xEj (cs:=#[xC h.size,n,xC i.vars,f,xC j,xC 0,qD,qD,xC 0]) (qs:=[(0,[xC h.size,n]),(2,[xC i.vars,f]),(4,[xC j])]) underlying129 zeroValue129 (fun w=>by simp [sizeOf2,sizeOf26,sizeOf29,sizeOf41,sizeOf91];rfl) F rfl rfl rfl rfl rfl ⟨rfl,rfl,Nat.le_of_ble_eq_true rfl,⟨rfl,rfl,Nat.le_of_ble_eq_true rfl,⟨rfl,rfl,Nat.le_of_ble_eq_true rfl,trivial⟩⟩⟩ rfl fun a F=>oX F rfl rfl rfl H (fun a w x H F=>?_));refine xA 1 F rfl fun a F=>xJ (xF (xV (xA 2 F rfl fun a F=>?_)));have H:=H.nl 4 qY 95;have H:=H.nl 1 xI 2;obtain⟨t,c1,e⟩:=xB e;obtain⟨X1,K1,a0⟩:=Sep.lend (K:=[bx x [xC h.size,n,xC i.vars,f,xC j,xC 0,qD,qD,xC 0] 129,rl 4 qY 95 qD ([]),rl 1 xI 2 qD ([]),rw N0 1 (vQ 1 xI) 41 p E]) (L:=[bx Y [xC i.vars,f] 29,bx X [xC h.size,n] 26]) (H.s [2,1,0,5,3,4] rfl rfl);refine oG F rfl call107 rfl (pI t c1 _ H.hN K1 M (H.u O) P (H.u Q) C (show xS 0 by decide) (show xS 0 by decide)) (fun a vv w ⟨y,A,a7,S,Z,a1⟩ F=>?_);subst vv;have H:Sep J B d w [bx x [xC h.size,n,xC i.vars,f,xC j,xC t.2.1,y,A,xC t.2.2.2.2.1] 129,rl 4 qY 95 y t.2.2.1,rl 1 xI 2 A t.2.2.2.1,rw N0 1 (vQ 1 xI) 41 p t.2.2.2.2.2,bx Y [xC i.vars,f] 29,bx X [xC h.size,n] 26]:=a0 S;refine xJ (qV F rfl (fun D=>?_) (fun D=>?_))
 ·
  replace e:=vX D e;refine xY (xA 1 F rfl fun a F=>vO F rfl rfl fun a F=>oD mL F rfl rfl rfl fun a F=>oW sizeOf2 F rfl rfl rfl H rfl rfl rfl fun w H=>vG (xA 2 F rfl fun a F=>?_));refine xJ (xR (xT F rfl (oE F rfl) ?_));obtain rfl:=oj e;exact⟨_,rfl,x,n,f,y,A,rfl,(H.s [0,1,2,3] rfl rfl),M,O,P,Q,C,Z,(show xS (6) by decide)⟩
 replace e:=vW D e;refine xN (xG (xV (xA 2 F rfl fun a F=>xJ (xR (xT F rfl (oE F rfl) ?_)))));obtain rfl:=oj e;exact⟨_,rfl,x,n,f,y,A,rfl,(H.s [0,1,2,3] rfl rfl),M,O,P,Q,C,Z,a1⟩
def eB (N:Nat) (d:Template) (e:Instance) (i:List Literal) (j:Int):Option (Bool×Int):=
 xZ (kX (Template.mk d.size d.rels) (Instance.mk e.vars e.cons)) fun n=>
 zR (σ:=(List (List Int))) (
  qT (σ:=(List (List Int))) (ρ:=Bool×Int) (fun (y:Nat) (c:Literal) (f:(List (List Int)))=>
   xZ (ix f c.var) fun p=>
   xZ (zB p c.value) fun t=>
   if t then
    some (.go (f.set (c.var).toNat ([c.value])))
   else
    some (.go (f.set (c.var).toNat ([])))) i 0 n) fun x=>
 xZ (eH N (Template.mk d.size d.rels) (Instance.mk e.vars e.cons) x j) fun h=>
 if (h.1.2.2.2.2.2.2.2.2==7) then
  some (false,7)
 else
  some ((h.1.2.2.2.2.2.2.2.2==6),0)
theorem pC {B:Nat→Prop} {N:Nat} {x:Template} {A:Instance} {p:List Literal} {C:Int} (r:Bool×Int) (d:eB N x A p C=some r) {X:Value} {Y:Value} {Q:Value} (i:World) (hN:∀ c,B c→c<i.heap.size) (A0:Bo B i (kK 2 xH) X x) (A1:Bo B i (kK 2 xK) Y A) (A2:Bo B i (Sl 2 xU) Q p) (ag:xS C):Calls Tryz.prog 28 #[X,Y,Q,xC C] i (Gv (fun v w'=>v= .tuple #[.bool r.1,xC r.2]∧Sep [] B i w' []∧xS r.2)):=by
 unfold eB at d
 refine xX (L:=[(0,X),(1,Y),(2,Q),(3,xC C)]) func28 rfl rfl rfl (sc rfl (sc rfl (sc rfl (sc rfl sn)))) (fun a F=>?_);have H:=Sep.start hN;refine xV ?_;obtain⟨T,rfl,i1,h1⟩:=xH.o A0;refine oX F rfl rfl rfl H (fun a w D H F=>?_);obtain⟨P,rfl,i2,h2⟩:=xK.o A1;refine oX F rfl rfl rfl H fun a w E H F=>xA 2 F rfl fun a F=>vG (dJ isAgg26 sizeOf26 F rfl rfl (H.b 1 rfl) rfl rfl fun a F=>dJ isAgg29 sizeOf29 F rfl rfl (H.b 0 rfl) rfl rfl (fun a F=>?_));obtain⟨z1,c1,d⟩:=xB d;refine oG F rfl call72 rfl (iC z1 c1 _ aA (xH.m i1 (H.a h1)) (xK.m i2 (H.a h2))) (fun a Z w ⟨v4,b8,S⟩ F=>?_);subst Z;have H:=H.r1 S n0;refine xA 1 F rfl fun a F=>xJ (xF (xV (xA 1 F rfl fun a F=>oL underlying32 F rfl rfl A2 fun a i3 F=>xA 1 F rfl fun a F=>xJ ?_)));obtain⟨o1,d,ah⟩:=xM d;refine oH (fun a w=>∃ (U:List (List Int)) (M:Value),o1= .nx U∧Sk a 58 [(3,xC C),(4,oO D),(5,oO E),(10,M)]∧Sep [] B i w [rw N0 1 (vQ 1 xI) 41 M U,bx E [xC A.vars,P] 29,bx D [xC x.size,T] 26]) ?_ ?_
 ·
  refine oJ ?_;obtain⟨ai,aj,d⟩:=qP d;refine qK (fun g a w=>∃ (t:Nat) (n:List Literal) (G:List (List Int)) (I:Value),(t≤p.length∧p.drop t=n)∧n.length=g∧qT ai n t G=some o1∧Sk a 58 [(19,xC (t:Int)),(3,xC C),(4,oO D),(5,oO E),(10,I),(17,Q),(18,xC (p.length:Int))]∧Sep [] B i w [rw N0 1 (vQ 1 xI) 41 I G,bx E [xC A.vars,P] 29,bx D [xC x.size,T] 26]) p.length ?_ ?_
  ·
   exact⟨0,p,z1,v4,⟨Nat.zero_le _,rfl⟩,rfl,d,F.su,H.lw⟩
  intro g1 a w ⟨t,n,G,I,f,ak,d,F,H⟩
  cases n with
  | nil=>
   replace d:=qO d;have q1:=qQ f.1 f.2;have l1:=vS q1;refine xV (xA 1 F rfl fun a F=>xJ (xF (zD F rfl l1 (qJ (qM (qM (zQ ?_)))))));refine xG ?_;exact⟨G,I,(zH d),F.su,H⟩
  | cons J n=>
   subst ak;replace f:=oZ f.2;have y1:=qX f.2.1;obtain⟨b9,d,a1⟩:=qG d;rw[aj] at d;have l1:=vE f.1;refine xV (xA 1 F rfl fun a F=>xJ (xF (zC F rfl l1 (xN (xG (xF ?_))))));have j1:=gP (Nat.le_of_lt f.1) i3;have m1:=zU f.1 i3;refine oJ (xV (oI underlying32 sizeOf35 F rfl rfl rfl A2 y1 fun a p1 h3 F=>olA isAgg35 sizeOf35 F rfl rfl H.sm h3 fun a v7 h4 F=>oA zeroValue35 F rfl rfl H (fun a w b3 H F=>?_)));obtain⟨rfl,i4,i5⟩:=xU.o h4;refine cN (vs:=[xC J.var,xC J.value]) sizeOf35 F rfl rfl rfl H (oc rfl (oc rfl on)) rfl rfl fun w H=>xJ (xF (xQ H (by kernel_rfl) (by kernel_rfl) (xP F rfl (fun w l=>xL F rfl) fun a F=>xP F rfl (fun w l=>oM nW F rfl rfl) fun a F=>qB isAgg2 F rfl rfl (H.qb 0 rfl) rfl (fun a F=>?_))));obtain⟨z2,O,d⟩:=xB d;refine qI underlying38 sizeOf41 F rfl rfl rfl (H.r 1 rfl) O fun a p2 h5 F=>qlS isAgg41 F rfl rfl qA h5 fun a v8 h6 F=>xP F rfl (fun w l=>oM pV F rfl rfl) fun a F=>qB isAgg2 F rfl rfl (H.qb 0 rfl) rfl (fun a F=>?_);obtain⟨z3,c3,d⟩:=xB d;refine fX F rfl call73 rfl (fun w w' h l=>l.through h) (fun w l=>eK z3 c3 w aA (h6.w l) i5) fun a F=>kZ fun w H=>xG (qV F rfl (fun V=>?_) (fun V=>?_))
   ·
    replace d:=vX V d;refine xY (xA 1 F rfl fun a F=>oD nW F rfl rfl rfl fun a F=>oB isAgg2 F rfl rfl (H.b 0 rfl) rfl fun a F=>oD pV F rfl rfl rfl fun a F=>oB isAgg2 F rfl rfl (H.b 0 rfl) rfl fun a F=>cM (R:=xI) (y:=J.value) underlying41 sizeOf2 zeroValue2 rfl rfl F rfl rfl H (Eo.int i5) fun a w v9 H F=>oRi underlying38 sizeOf41 F rfl rfl rfl H 2 rfl O fun a p3 h7 al F=>oSc sizeOf41 F rfl rfl rfl (H.s [2,0,1,3,4] rfl rfl) al (fZ O) n0 (fun e q=>(Eo.sl q.ld)) ((H.s [2,0,1,3,4] rfl rfl).l 1 rfl).one rfl fun w H=>qU (vH ?_));refine xG (xY (vP F rfl rfl rfl m1 fun a F=>xA 1 F rfl fun a F=>xJ ?_));replace d:=vU d a1;exact⟨_,Nat.lt_succ_self _,t+1,n,(G.set (J.var).toNat ([J.value])),I,⟨f.1,f.2.2⟩,rfl,d,F.su,(H.s [0,2,3] rfl rfl)⟩
   replace d:=vW V d;refine xY (xA 1 F rfl fun a F=>oD nW F rfl rfl rfl fun a F=>oB isAgg2 F rfl rfl (H.b 0 rfl) rfl fun a F=>oRi underlying38 sizeOf41 F rfl rfl rfl H 1 rfl O fun a p4 h8 am F=>oS sizeOf41 F rfl rfl rfl (H.s [1,0,2,3] rfl rfl) am (fZ O) (Eo.sl Bo.snil) rfl rfl fun w H=>qU (vH (xG (xY (vP F rfl rfl rfl m1 (fun a F=>?_))))));refine xA 1 F rfl fun a F=>xJ ?_;replace d:=vU d a1;exact⟨_,Nat.lt_succ_self _,t+1,n,(G.set (J.var).toNat ([])),I,⟨f.1,f.2.2⟩,rfl,d,F.su,(H.s [0,2,3] rfl rfl)⟩
 rintro a w ⟨U,M,rfl,F,H⟩
 have d:=xW ah;refine xG (xV (dJ isAgg26 sizeOf26 F rfl rfl (H.b 2 rfl) rfl rfl fun a F=>dJ isAgg29 sizeOf29 F rfl rfl (H.b 1 rfl) rfl rfl fun a F=>xA 2 F rfl fun a F=>?_));obtain⟨j,c4,d⟩:=xB d;obtain⟨X1,K1,an⟩:=Sep.lend (K:=[rw N0 1 (vQ 1 xI) 41 M U]) (L:=[bx E [xC A.vars,P] 29,bx D [xC x.size,T] 26]) H;refine oG F rfl call74 rfl (lB j c4 _ H.hN K1 (xH.m i1 (H.u h1)) (xK.m i2 (H.u h2)) ag) (fun a Z w ⟨b4,ao,aq,a2,a3,ba,S,i6,h9,i7,a4,i8,i9,bb⟩ F=>?_);subst Z;have h9:=H.dn h9;have a4:=H.dn a4;have H:Sep [] B i w [bx b4 [xC j.1.1,ao,xC j.1.2.2.1,aq,xC j.1.2.2.2.2.1,xC j.1.2.2.2.2.2.1,a2,a3,xC j.1.2.2.2.2.2.2.2.2] 129,rl 4 qY 95 a2 j.1.2.2.2.2.2.2.1,rl 1 xI 2 a3 j.1.2.2.2.2.2.2.2.1,rw N0 1 (vQ 1 xI) 41 M j.2,bx E [xC A.vars,P] 29,bx D [xC x.size,T] 26]:=an S;refine xA 1 F rfl fun a F=>xJ (xF (xV (xA 1 F rfl fun a F=>vO F rfl rfl fun a F=>oD mL F rfl rfl rfl fun a F=>oB isAgg2 F rfl rfl (H.b 0 rfl) rfl fun a F=>xA 1 F rfl fun a F=>?_)));refine xJ (qV F rfl (fun W=>?_) (fun W=>?_))
 ·
  replace d:=vX W d;refine xV (xA 2 F rfl fun a F=>xJ (xR (oQ (vJ F rfl (oE F rfl) (oE F rfl) ?_))));obtain rfl:=oj d;exact⟨_,rfl,rfl,(H.s [] rfl rfl),(show xS (7) by decide)⟩
 replace d:=vW W d;refine xN (xG (xV (xA 1 F rfl fun a F=>vO F rfl rfl fun a F=>oD mL F rfl rfl rfl fun a F=>oB isAgg2 F rfl rfl (H.b 0 rfl) rfl fun a F=>xA 3 F rfl fun a F=>?_)));refine xJ (xR (vJ F rfl (oE F rfl) (oE F rfl) ?_));obtain rfl:=oj d;exact⟨_,rfl,rfl,(H.s [] rfl rfl),(show xS (0) by decide)⟩
def cZ (N:Nat) (c:Template) (d:Instance) (e:List Literal) (f:Int):Option (Bool×Int):=
 xZ (bO (Template.mk c.size c.rels) (Instance.mk d.vars d.cons) f) fun h=>
 if (h != 0) then
  some (false,h)
 else
  xZ (aR (Template.mk c.size c.rels) (Instance.mk d.vars d.cons) e) fun j=>
  if (!j) then
   some (false,2)
  else
   xZ (eB N (Template.mk c.size c.rels) (Instance.mk d.vars d.cons) e f) fun i=>
   some (i.1,i.2)
theorem hG {B:Nat→Prop} {N:Nat} {D:Template} {E:Instance} {G:List Literal} {f:Int} (r:Bool×Int) (d:cZ N D E G f=some r) {j:Value} {n:Value} {p:Value} (e:World) (K:∀ c,B c→c<e.heap.size) (M:Bo B e (kK 2 xH) j D) (O:Bo B e (kK 2 xK) n E) (I:Bo B e (Sl 2 xU) p G) (C:xS f):Calls Tryz.prog 7 #[j,n,p,xC f] e (Gv (fun v w'=>v= .tuple #[.bool r.1,xC r.2]∧Sep [] B e w' []∧xS r.2)):=by
 unfold cZ at d
 refine xX (L:=[(0,j),(1,n),(2,p),(3,xC f)]) func7 rfl rfl rfl (sc rfl (sc rfl (sc rfl (sc rfl sn)))) (fun a F=>?_);have H:=Sep.start K;refine xV ?_;obtain⟨v3,rfl,t,x⟩:=xH.o M;refine oX F rfl rfl rfl H (fun a w b1 H F=>?_);obtain⟨Y,rfl,y,A⟩:=xK.o O;refine oX F rfl rfl rfl H fun a w b2 H F=>xA 2 F rfl fun a F=>xJ (xF (xV (dJ isAgg26 sizeOf26 F rfl rfl (H.b 1 rfl) rfl rfl fun a F=>dJ isAgg29 sizeOf29 F rfl rfl (H.b 0 rfl) rfl rfl fun a F=>xA 1 F rfl fun a F=>?_)));obtain⟨P,Q,d⟩:=xB d;refine oKI F rfl call26 rfl H (hU P Q _ aA (xH.m t (H.a x)) (xK.m y (H.a A)) C) fun a w H J F=>xA 1 F rfl fun a F=>vG (xA 2 F rfl fun a F=>xJ (qV F rfl (fun h=>?_) (fun h=>?_)))
 ·
  replace d:=vX h d;refine xV (xA 3 F rfl fun a F=>xJ (xR (oQ (vJ F rfl (oE F rfl) (oE F rfl) ?_))));obtain rfl:=oj d;exact⟨_,rfl,rfl,(H.s [] rfl rfl),J⟩
 replace d:=vW h d;refine xN (xG (xF (xV (dJ isAgg26 sizeOf26 F rfl rfl (H.b 1 rfl) rfl rfl fun a F=>dJ isAgg29 sizeOf29 F rfl rfl (H.b 0 rfl) rfl rfl fun a F=>xA 1 F rfl fun a F=>?_))));obtain⟨R,T,d⟩:=xB d;refine oK F rfl call27 rfl H (lS R T _ aA (xH.m t (H.a x)) (xK.m y (H.a A)) (H.a I)) fun a w H F=>xA 1 F rfl fun a F=>xJ (qV F rfl (fun i=>?_) (fun i=>?_))
 ·
  replace d:=vX i d;refine xV (xA 2 F rfl fun a F=>xJ (xR (oQ (vJ F rfl (oE F rfl) (oE F rfl) ?_))));obtain rfl:=oj d;exact⟨_,rfl,rfl,(H.s [] rfl rfl),(show xS (2) by decide)⟩
 replace d:=vW i d;refine xN (xG (xV (dJ isAgg26 sizeOf26 F rfl rfl (H.b 1 rfl) rfl rfl fun a F=>dJ isAgg29 sizeOf29 F rfl rfl (H.b 0 rfl) rfl rfl fun a F=>xA 2 F rfl fun a F=>?_)));obtain⟨U,V,d⟩:=xB d;refine oG F rfl call28 rfl (pC U V _ aA (xH.m t (H.a x)) (xK.m y (H.a A)) (H.a I) C) (fun a W w ⟨Z,S,X⟩ F=>?_);subst W;have H:=H.r0 S;refine xA 4 F rfl fun a F=>xJ (xR (vJ F rfl (oE F rfl) (oE F rfl) ?_));obtain rfl:=oj d;exact⟨_,rfl,rfl,(H.s [] rfl rfl),X⟩
def vD (c:List Literal):Option (List Literal):=
 xZ (ap ([]) c) fun d=>
 some d
theorem aW {B:Nat→Prop} {j:List Literal} (r:(List Literal)) (d:vD j=some r) {f:Value} (e:World) (t:∀ c,B c→c<e.heap.size) (n:Bo B e (Sl 2 xU) f j):Calls Tryz.prog 30 #[f] e (Gv (fun v w'=>∃ (h:Value),v=h∧Sep [] B e w' [rl 2 xU 35 h r])):=by
 unfold vD at d
 refine xX (L:=[(0,f)]) func30 rfl rfl rfl (sc rfl sn) (fun a F=>?_);have H:=Sep.start t;refine xV (xA 1 F rfl fun a F=>xJ (xF (xV (xA 1 F rfl fun a F=>oEn underlying32 F rfl rfl rfl (H.a n) fun a A p F=>qU ?_))));refine xG (qV F rfl (fun i=>?_) (fun i=>?_))
 ·
  replace d:some ([])=some r:=by rw[p i] at d;exact d
  refine xV (xA 1 F rfl fun a F=>xJ (xR (oQ (xT F rfl (oE F rfl) ?_))));obtain rfl:=oj d;exact⟨_,rfl,qD,rfl,(H.nl 2 xU 35)⟩
 refine xN (xG (xV (oR0 (R:=xU) underlying32 sizeOf35 F rfl H fun a w C H F=>xA 1 F rfl fun a F=>?_)));obtain⟨D,x,d⟩:=xB d;refine oPf (sz:=2) (R:=xU) (z:=(.agg #[xC 0,xC 0])) (bytes:=16) underlying32 (by kernel_rfl) rfl rfl F rfl rfl rfl H.lw (H.lw.a n) x (fun a w y H F=>?_);have H:=H.tl;refine xA 1 F rfl fun a F=>xJ (xR (xT F rfl (oE F rfl) ?_));obtain rfl:=oj d;exact⟨_,rfl,y,rfl,H⟩
def dZ (N:Nat) (d:Template) (e:Instance) (j:List Literal) (n:Int):Option ((List Literal)×Int):=
 xZ (cZ N (Template.mk d.size d.rels) (Instance.mk e.vars e.cons) j n) fun h=>
 if (h.2 != 0) then
  some ([],h.2)
 else
  if (!h.1) then
   some ([],4)
  else
   xZ (vD j) fun x=>
   zR (σ:=(List Literal)×Int) (
    fA (σ:=(List Literal)×Int) (ρ:=(List Literal)×Int) (fun(s:(List Literal)×Int)=>
      match s with
      | (f,c)=>
      if (decide (c<(f.length:Int))) then
       xZ (vD f) fun y=>
       xZ (ck (c+1)) fun p=>
       xZ (zI y c p) fun t=>
       xZ (eB N (Template.mk d.size d.rels) (Instance.mk e.vars e.cons) t n) fun i=>
       if (i.2 != 0) then
        some (.ret ([],i.2))
       else
        if i.1 then
         some (.go (t,c))
        else
         some (.go (f,p))
      else
       some (.brk (f,c))) N (x,0)) fun(A,B)=>
   some (A,0)
theorem rT {B:Nat→Prop} {N:Nat} {G:Template} {I:Instance} {V:List Literal} {i:Int} (r:(List Literal)×Int) (d:dZ N G I V i=some r) {J:Value} {K:Value} {M:Value} (e:World) (hN:∀ c,B c→c<e.heap.size) (A0:Bo B e (kK 2 xH) J G) (A1:Bo B e (kK 2 xK) K I) (W:Bo B e (Sl 2 xU) M V) (R:xS i):Calls Tryz.prog 9 #[J,K,M,xC i] e (Gv (fun v w'=>∃ (T:Value),v= .tuple #[T,xC r.2]∧Sep [] B e w' [rl 2 xU 35 T r.1]∧xS r.2)):=by
 unfold dZ at d
 refine xX (L:=[(0,J),(1,K),(2,M),(3,xC i)]) func9 rfl rfl rfl (sc rfl (sc rfl (sc rfl (sc rfl sn)))) (fun a F=>?_);have H:=Sep.start hN;refine xV ?_;obtain⟨v3,rfl,X,Y⟩:=xH.o A0;refine oX F rfl rfl rfl H (fun a w Z H F=>?_);obtain⟨a6,rfl,i2,h2⟩:=xK.o A1;refine oX F rfl rfl rfl H fun a w b2 H F=>xA 2 F rfl fun a F=>vG (dJ isAgg26 sizeOf26 F rfl rfl (H.b 1 rfl) rfl rfl fun a F=>dJ isAgg29 sizeOf29 F rfl rfl (H.b 0 rfl) rfl rfl fun a F=>xA 2 F rfl fun a F=>?_);obtain⟨z1,c1,d⟩:=xB d;refine oG F rfl call7 rfl (hG z1 c1 _ aA (xH.m X (H.a Y)) (xK.m i2 (H.a h2)) (H.a W) R) (fun a f w ⟨au,S,i3⟩ F=>?_);subst f;have H:=H.r0 S;refine xA 5 F rfl fun a F=>xJ (xF (oJ (xV ?_)));refine xA 3 F rfl fun a F=>xJ (qV F rfl (fun y=>?_) (fun y=>?_))
 ·
  replace d:=vX y d;refine xV (xA 3 F rfl fun a F=>xJ (xR (vT (oQ (vJ F rfl (oE F rfl) (oE F rfl) ?_)))));obtain rfl:=oj d;exact⟨_,rfl,qD,rfl,((H.nl 2 xU 35).s [0] rfl rfl),i3⟩
 replace d:=vW y d;refine xV (xA 3 F rfl fun a F=>xJ (qV F rfl (fun A=>?_) (fun A=>?_)))
 ·
  replace d:=vX A d;refine xV (xA 2 F rfl fun a F=>xJ (xR (vT (oQ (vJ F rfl (oE F rfl) (oE F rfl) ?_)))));obtain rfl:=oj d;exact⟨_,rfl,qD,rfl,((H.nl 2 xU 35).s [0] rfl rfl),(show xS (4) by decide)⟩
 replace d:=vW A d;refine xN (vH (xG (xV (xA 1 F rfl fun a F=>?_))));obtain⟨z2,c2,d⟩:=xB d;refine oG F rfl call30 rfl (aW z2 c2 _ aA (H.a W)) (fun a f w ⟨v4,av,S⟩ F=>?_);subst f;have H:=H.r1 S n0;refine xA 1 F rfl fun a F=>xJ (xF (xV (xA 1 F rfl fun a F=>xJ ?_)));obtain⟨o1,d,U⟩:=xM d;refine oH (fun a w=>∃ (O:List Literal) (t:Value) (P:Int),o1= .nx (O,P)∧Sk a 62 [(12,t)]∧Sep [] B e w [rl 2 xU 35 t O]∧xS P) ?_ ?_
 ·
  refine oJ ?_;obtain⟨a7,a8,d⟩:=bJ d;refine qK (fun g a w=>∃ (j:List Literal) (n:Value) (h:Int),fA a7 g (j,h)=some o1∧Sk a 62 [(3,xC i),(4,oO Z),(5,oO b2),(12,n),(13,xC h)]∧Sep [] B e w [rl 2 xU 35 n j,bx b2 [xC I.vars,a6] 29,bx Z [xC G.size,v3] 26]∧xS h) N ?_ ?_
  ·
   exact⟨z2,v4,0,d,F.su,H,(show xS (0) by decide)⟩
  intro g1 a w ⟨j,n,h,d,F,H,Q⟩;obtain⟨aw,t1,ax,d,p⟩:=kR d;rw[a8] at d;refine xF (xV (xA 2 F rfl fun a F=>oL underlying32 F rfl rfl (H.l 0 rfl) fun a i5 F=>xA 1 F rfl fun a F=>xJ (qV F rfl (fun C=>?_) (fun C=>?_))))
  ·
   replace d:=vX C d;refine xN (xG (oJ (xV (xA 1 F rfl fun a F=>?_))));obtain⟨z3,c3,d⟩:=xB d;refine oG F rfl call30 rfl (aW z3 c3 _ aA (H.l 0 rfl)) (fun a f w ⟨v7,ay,S⟩ F=>?_);subst f;have H:=H.r1 S n0;refine xA 2 F rfl fun a F=>?_;obtain⟨z4,x,d⟩:=xB d;refine cX F rfl rfl rfl x (fun a F=>?_);obtain⟨z5,c5,d⟩:=xB d;refine xMw F rfl call31 rfl H c5 Q (kV x) fun a w v8 H F=>xA 1 F rfl fun a F=>vG (dJ isAgg26 sizeOf26 F rfl rfl (H.b 3 rfl) rfl rfl fun a F=>dJ isAgg29 sizeOf29 F rfl rfl (H.b 2 rfl) rfl rfl fun a F=>xA 2 F rfl fun a F=>?_);obtain⟨z6,c6,d⟩:=xB d;refine oG F rfl call28 rfl (pC z6 c6 _ aA (xH.m X (H.a Y)) (xK.m i2 (H.a h2)) (H.l 0 rfl) R) (fun a f w ⟨az,S,i6⟩ F=>?_);subst f;have H:=H.r0 S;refine xA 5 F rfl fun a F=>xJ (oJ (xV (xA 1 F rfl fun a F=>?_)));refine xA 2 F rfl fun a F=>xJ (qV F rfl (fun D=>?_) (fun D=>?_))
   ·
    replace d:=vX D d;refine xV (xA 3 F rfl fun a F=>xJ (xR (vT (vT (oQ ?_)))));replace d:=kD d p;refine vT (oQ ?_);replace d:=zZ d U;refine oQ (vJ F rfl (oE F rfl) (oE F rfl) ?_);obtain rfl:=oj d;exact⟨_,rfl,qD,rfl,((H.nl 2 xU 35).s [0] rfl rfl),i6⟩
   replace d:=vW D d;refine xV (xA 2 F rfl fun a F=>xJ (qV F rfl (fun E=>?_) (fun E=>?_)))
   ·
    replace d:=vX E d;refine xY (xA 2 F rfl fun a F=>qU (vH (vH (xG ?_))));replace d:=vU d p;exact⟨t1,(by omega),z5,v8,h,d,F.su,(H.s [0,2,3] rfl rfl),Q⟩
   replace d:=vW E d;refine xY (xA 1 F rfl fun a F=>cX F rfl rfl rfl x fun a F=>xA 1 F rfl fun a F=>qU (vH (vH (xG ?_))));replace d:=vU d p;exact⟨t1,(by omega),j,n,z4,d,F.su,(H.s [1,2,3] rfl rfl),(kV x)⟩
  replace d:=vW C d;refine qJ (qM (qM ?_));replace d:=gV d p;refine zQ (xG ?_);exact⟨j,n,h,(zH d),F.su,(H.s [0] rfl rfl),Q⟩
 rintro a w ⟨O,t,P,rfl,F,H,i7⟩
 have d:=xW U;refine xG (xV (xA 3 F rfl fun a F=>xJ (xR (vJ F rfl (oE F rfl) (oE F rfl) ?_))));obtain rfl:=oj d;exact⟨_,rfl,t,rfl,H,(show xS (0) by decide)⟩
def eT (c:Template) (d:Instance):Option solver:=
 zR (σ:=(List Atom)) (
  qT (σ:=(List Atom)) (ρ:=solver) (fun (n:Nat) (e:Con) (f:(List Atom))=>
   xZ (ap f ([(Atom.mk e.rel e.scope)])) fun h=>
   some (.go h)) d.cons 0 []) fun i=>
 xZ (fL (Template.mk c.size c.rels) d.vars i) fun j=>
 some j
theorem nK {B:Nat→Prop} {p:Template} {f:Instance} (r:solver) (d:eT p f=some r) {E:Value} {G:Value} (h:World) (hN:∀ c,B c→c<h.heap.size) (A0:Bo B h (kK 2 xH) E p) (A1:Bo B h (kK 2 xK) G f):Calls Tryz.prog 43 #[E,G] h (Gv (fun v w'=>∃ (O:Value),v=O∧Sep [] B h w' [ro B (V:=(Pt 4 kU)) O r])):=by
 unfold eT at d
 refine xX (L:=[(0,E),(1,G)]) func43 rfl rfl rfl (sc rfl (sc rfl sn)) (fun a F=>?_);have H:=Sep.start hN;refine xV ?_;obtain⟨P,rfl,i1,h1⟩:=xH.o A0;refine oX F rfl rfl rfl H (fun a w t H F=>?_);obtain⟨D,rfl,i2,Q⟩:=xK.o A1;refine oX F rfl rfl rfl H fun a w A H F=>xA 1 F rfl fun a F=>vG (oR0 (R:=zW) underlying139 sizeOf141 F rfl H fun a w v3 H F=>xA 1 F rfl fun a F=>xJ (xF ?_));refine xV (oD zT F rfl rfl rfl fun a F=>oB isAgg27 F rfl rfl (H.b 1 rfl) rfl fun a F=>oL underlying27 F rfl rfl Q fun a T F=>xA 1 F rfl fun a F=>xJ ?_);obtain⟨U,d,W⟩:=xM d;refine oH (fun a w=>∃ (I:List Atom) (J:Value),U= .nx I∧Sk a 30 [(2,oO t),(3,oO A),(5,J)]∧Sep [] B h w [rw B 2 zW 141 J I,bx A [xC f.vars,D] 29,bx t [xC p.size,P] 26]) ?_ ?_
 ·
  refine oJ ?_;obtain⟨X,Y,d⟩:=qP d;refine qK (fun g a w=>∃ (j:Nat) (i:List Con) (C:List Atom) (n:Value),(j≤f.cons.length∧f.cons.drop j=i)∧i.length=g∧qT X i j C=some U∧Sk a 30 [(12,xC (j:Int)),(2,oO t),(3,oO A),(5,n),(10,D),(11,xC (f.cons.length:Int))]∧Sep [] B h w [rw B 2 zW 141 n C,bx A [xC f.vars,D] 29,bx t [xC p.size,P] 26]) f.cons.length ?_ ?_
  ·
   exact⟨0,f.cons,[],v3,⟨Nat.zero_le _,rfl⟩,rfl,d,F.su,H.lw.wk⟩
  intro g1 a w ⟨j,i,C,n,e,Z,d,F,H⟩
  cases i with
  | nil=>
   replace d:=qO d;have q1:=qQ e.1 e.2;have K:=vS q1;refine xV (xA 1 F rfl fun a F=>xJ (xF (zD F rfl K (qJ (qM (qM (zQ ?_)))))));refine xG ?_;exact⟨C,n,(zH d),F.su,H⟩
  | cons M i=>
   subst Z;replace e:=oZ e.2;have y1:=qX e.2.1;obtain⟨aw,d,a0⟩:=qG d;rw[Y] at d;have K:=vE e.1;refine xV (xA 1 F rfl fun a F=>xJ (xF (zC F rfl K (xN (xG (xF ?_))))));have j1:=gP (Nat.le_of_lt e.1) T;have m1:=zU e.1 T;refine oJ (xV (oI underlying27 sizeOf69 F rfl rfl rfl Q y1 fun a p1 h3 F=>olA isAgg69 sizeOf69 F rfl rfl H.sm h3 fun a v5 h4 F=>oA zeroValue69 F rfl rfl H (fun a w b3 H F=>?_)));obtain⟨v6,rfl,i4,N⟩:=oR.o h4;refine cN (vs:=[xC M.rel,v6]) sizeOf69 F rfl rfl rfl H (oc rfl (oc (H.a N).one on)) rfl rfl fun w H=>xJ (xY (xA 1 F rfl fun a F=>oD lX F rfl rfl rfl fun a F=>oB isAgg2 F rfl rfl (H.b 0 rfl) rfl fun a F=>oD bM F rfl rfl rfl fun a F=>oB isAgg41 F rfl rfl (H.b 0 rfl) rfl fun a F=>vY underlying141 zeroValue141 (fun w=>by simp [sizeOf2,sizeOf41];rfl) F rfl rfl rfl rfl rfl (oc rfl (oc (H.a N).one on)) rfl rfl fun a F=>oR1 (R:=zW) (y:=(Atom.mk M.rel M.scope)) (N1:=B) underlying139 sizeOf141 zeroValue141 rfl rfl F rfl rfl H n1 (Eo.agg (zW.m i4 (H.u N))) (fun a w v7 H F=>?_)));obtain⟨z1,c1,d⟩:=xB d;refine oP (sz:=2) (R:=zW) (z:=(.agg #[xC 0,qD])) (bytes:=32) underlying139 (by kernel_rfl) rfl rfl F rfl rfl rfl (H.s [2,0,1,3,4] rfl rfl) c1 fun a w v8 H F=>xA 1 F rfl fun a F=>qU (vH (xG (xY (vP F rfl rfl rfl m1 fun a F=>xA 1 F rfl fun a F=>xJ ?_))));replace d:=vU d a0;exact⟨_,Nat.lt_succ_self _,j+1,i,z1,v8,⟨e.1,e.2.2⟩,rfl,d,F.su,(H.s [0,2,3] rfl rfl)⟩
 rintro a w ⟨I,J,rfl,F,H⟩
 have d:=xW W;refine xG (xV (dJ isAgg26 sizeOf26 F rfl rfl (H.b 2 rfl) rfl rfl fun a F=>oD eE F rfl rfl rfl fun a F=>oB isAgg2 F rfl rfl (H.b 1 rfl) rfl fun a F=>xA 1 F rfl fun a F=>?_));obtain⟨w1,rfl⟩:∃ x,x=w:=⟨_,rfl⟩;have ax:=H.sm;obtain⟨X1,N2,g2,e1,H,a1,ay⟩:=H.fza;have h6:=g2.rd;obtain⟨z2,c2,d⟩:=xB d;refine oG F rfl call89 rfl (wK z2 c2 _ H.hN (xH.m i1 (H.u (e1 h1))) i2 (H.u h6)) (fun a vv w ⟨v9,az,S⟩ F=>?_);subst vv;have H:=H.r1 S n1;obtain⟨w2,rfl⟩:∃ x,x=w:=⟨_,rfl⟩;have b0:=H.sm;obtain⟨X2,N3,g3,e2,H,a2,b1⟩:=H.fza;have h7:=g3.rod;refine xA 1 F rfl fun a F=>xJ (xR ?_);have H:=H.rob h7;have H:=(a1.2.1 (a2.2.1 (H.s [0] rfl rfl) (Ns.all trivial)) (Ns.all trivial));refine xT F rfl (oE F rfl) ?_;obtain rfl:=oj d;exact⟨_,rfl,v9,rfl,H⟩
def cR (N:Nat) (c:Template) (d:Instance):Option (Int×Int):=
 xZ (kT (Template.mk c.size c.rels) (Instance.mk d.vars d.cons)) fun e=>
 if (!e) then
  some (0,1)
 else
  xZ (eT (Template.mk c.size c.rels) (Instance.mk d.vars d.cons)) fun f=>
  xZ (aI (fun _ n=>xZ (ck (n+1)) fun z=>some (true,z)) N f ([]) 0) fun h=>
  some (h.2,0)
theorem pL {B:Nat→Prop} {N:Nat} {C:Template} {D:Instance} (r:Int×Int) (d:cR N C D=some r) {n:Value} {p:Value} (e:World) (O:∀ c,B c→c<e.heap.size) (P:Bo B e (kK 2 xH) n C) (Q:Bo B e (kK 2 xK) p D):Calls Tryz.prog 13 #[n,p] e (Gv (fun v w'=>v= .tuple #[xC r.1,xC r.2]∧Sep [] B e w' []∧xS r.1∧xS r.2)):=by
 unfold cR at d
 refine xX (L:=[(0,n),(1,p)]) func13 rfl rfl rfl (sc rfl (sc rfl sn)) (fun a F=>?_);have H:=Sep.start O;refine xV ?_;obtain⟨v2,rfl,E,G⟩:=xH.o P;refine oX F rfl rfl rfl H (fun a w b1 H F=>?_);obtain⟨a0,rfl,I,J⟩:=xK.o Q;refine oX F rfl rfl rfl H fun a w b2 H F=>xA 2 F rfl fun a F=>xJ (xF (xV (dJ isAgg26 sizeOf26 F rfl rfl (H.b 1 rfl) rfl rfl fun a F=>dJ isAgg29 sizeOf29 F rfl rfl (H.b 0 rfl) rfl rfl (fun a F=>?_))));obtain⟨R,T,d⟩:=xB d;refine oK F rfl call34 rfl H (dL R T _ aA (xH.m E (H.a G)) (xK.m I (H.a J))) fun a w H F=>xA 1 F rfl fun a F=>xJ (qV F rfl (fun j=>?_) (fun j=>?_))
 ·
  replace d:=vX j d;refine xV (xA 2 F rfl fun a F=>xJ (xR (oQ (vJ F rfl (oE F rfl) (oE F rfl) ?_))));obtain rfl:=oj d;exact⟨_,rfl,rfl,(H.s [] rfl rfl),(show xS (0) by decide),(show xS (1) by decide)⟩
 replace d:=vW j d;refine xN (xG (xV (oA zeroValue2 F rfl rfl H fun a w i H F=>oW sizeOf2 F rfl rfl rfl H rfl rfl rfl fun w H=>vG (dJ isAgg26 sizeOf26 F rfl rfl (H.b 2 rfl) rfl rfl (fun a F=>?_)))));refine dJ isAgg29 sizeOf29 F rfl rfl (H.b 1 rfl) rfl rfl (fun a F=>?_);obtain⟨U,V,d⟩:=xB d;refine oG F rfl call43 rfl (nK U V _ H.hN (xH.m E (H.u G)) (xK.m I (H.u J))) (fun a t w ⟨v3,a1,S⟩ F=>?_);subst t;have H:=H.r1 S n1;obtain⟨w1,rfl⟩:∃ x,x=w:=⟨_,rfl⟩;have a2:=H.sm;obtain⟨X1,N1,W,e1,H,K,a3⟩:=H.fza;have X:=W.rod;refine mW F rfl rfl rfl (fun a F=>?_);obtain⟨y,Y,d⟩:=xB d;obtain⟨X2,K1,M⟩:=Sep.lend1 (A:=bN i 0) (Sep.exI (f:=fun _:PLift (xS 0)=>bx i [xC 0] 2) (b:=⟨(show xS (0) by decide)⟩) H);refine oG F rfl call44 rfl (rX (fun _ _ h=>h) call45 (xIy i) N y Y _ K1 (H.u X) Bo.snil) (fun a t w ⟨hv,S⟩ F=>?_);subst t;obtain⟨⟨Z⟩,H⟩:=Sep.exE (f:=fun _:PLift (xS y.2)=>bx i [xC y.2] 2) (M S);refine vG (oB isAgg2 F rfl rfl (H.b 0 rfl) rfl fun a F=>xA 2 F rfl fun a F=>xJ (xR ?_));have H:=(K.1 H (Ns.all ⟨n0,⟨n0,⟨n0,trivial⟩⟩⟩));refine vJ F rfl (oE F rfl) (oE F rfl) ?_;obtain rfl:=oj d;exact⟨_,rfl,rfl,(H.s [] rfl rfl),Z,(show xS (0) by decide)⟩
def cQ (N:Nat) (c:Template) (d:Instance) (f:Int):Option ((List Line)×Int):=
 xZ (bO (Template.mk c.size c.rels) (Instance.mk d.vars d.cons) f) fun h=>
 if (h != 0) then
  some ([],h)
 else
  xZ (kX (Template.mk c.size c.rels) (Instance.mk d.vars d.cons)) fun i=>
  xZ (eH N (Template.mk c.size c.rels) (Instance.mk d.vars d.cons) i f) fun e=>
  if (e.1.2.2.2.2.2.2.2.2==7) then
   some ([],7)
  else
   if (e.1.2.2.2.2.2.2.2.2==0) then
    some ([],6)
   else
    if (decide (4000<(e.1.2.2.2.2.2.2.1.length:Int))) then
     some ([],3)
    else
     some (e.1.2.2.2.2.2.2.1,0)
theorem pH {B:Nat→Prop} {N:Nat} {Q:Template} {R:Instance} {i:Int} (r:(List Line)×Int) (d:cQ N Q R i=some r) {A:Value} {C:Value} (f:World) (hN:∀ c,B c→c<f.heap.size) (A0:Bo B f (kK 2 xH) A Q) (A1:Bo B f (kK 2 xK) C R) (O:xS i):Calls Tryz.prog 47 #[A,C,xC i] f (Gv (fun v w'=>∃ (P:Value),v= .tuple #[P,xC r.2]∧Sep [] B f w' [rl 4 qY 95 P r.1]∧xS r.2)):=by
 unfold cQ at d
 refine xX (L:=[(0,A),(1,C),(2,xC i)]) func47 rfl rfl rfl (sc rfl (sc rfl (sc rfl sn))) (fun a F=>?_);have H:=Sep.start hN;refine xV ?_;obtain⟨v2,rfl,D,E⟩:=xH.o A0;refine oX F rfl rfl rfl H (fun a w b1 H F=>?_);obtain⟨ag,rfl,G,I⟩:=xK.o A1;refine oX F rfl rfl rfl H fun a w b2 H F=>xA 2 F rfl fun a F=>xJ (xF (xV (dJ isAgg26 sizeOf26 F rfl rfl (H.b 1 rfl) rfl rfl fun a F=>dJ isAgg29 sizeOf29 F rfl rfl (H.b 0 rfl) rfl rfl fun a F=>xA 1 F rfl fun a F=>?_)));obtain⟨z1,c1,d⟩:=xB d;refine oKI F rfl call26 rfl H (hU z1 c1 _ aA (xH.m D (H.a E)) (xK.m G (H.a I)) O) fun a w H a1 F=>xA 1 F rfl fun a F=>vG (xA 2 F rfl fun a F=>xJ (qV F rfl (fun n=>?_) (fun n=>?_)))
 ·
  replace d:=vX n d;refine xV (xA 3 F rfl fun a F=>xJ (xR (oQ (vJ F rfl (oE F rfl) (oE F rfl) ?_))));obtain rfl:=oj d;exact⟨_,rfl,qD,rfl,((H.nl 4 qY 95).s [0] rfl rfl),a1⟩
 replace d:=vW n d;refine xN (xG (xF ?_));obtain⟨T,c2,d⟩:=xB d;obtain⟨e,c3,d⟩:=xB d;obtain⟨w1,rfl⟩:∃ x,x=w:=⟨_,rfl⟩;have ah:=H.sm;obtain⟨X1,N1,U,j,H,h,ai⟩:=H.mg.fza;have K1:=U.l.bk;have V:=U.r.bk;refine xD H (by kernel_rfl) fun w H=>qE 0 rfl (by kernel_rfl) (vBA isAgg26 sizeOf26 F rfl rfl (V.v H.sm) rfl rfl fun a F=>qE 1 rfl (by kernel_rfl) (vBA isAgg29 sizeOf29 F rfl rfl (K1.v H.sm) rfl rfl fun a F=>qE 2 rfl (by kernel_rfl) (vBA isAgg26 sizeOf26 F rfl rfl (V.v H.sm) rfl rfl fun a F=>qE 3 rfl (by kernel_rfl) (vBA isAgg29 sizeOf29 F rfl rfl (K1.v H.sm) rfl rfl fun a F=>qW 5 rfl (by kernel_rfl) (xO F rfl (fun w l=>xL F rfl) (fun a F=>?_))))));refine xE H 4 rfl (by kernel_rfl) (oG F rfl call72 rfl (iC T c2 _ aA (xH.m D (H.a (j E))) (xK.m G (H.a (j I)))) (fun a J w ⟨W,aj,S⟩ F=>?_));subst J;have H:=H.r1 S n0;refine xJ ⟨⟨_,H⟩,?_⟩;refine xE H 6 rfl (by kernel_rfl) ?_;have H:=H.lw;obtain⟨X2,K3,a0⟩:=Sep.lend (K:=[rw N0 1 (vQ 1 xI) 41 W T]) (L:=[]) H;refine oG F rfl call74 rfl (lB e c3 _ H.hN K3 (xH.m D (H.u (j E))) (xK.m G (H.u (j I))) O) (fun a J w ⟨b3,v4,v5,M,X,ak,S,i3,Y,i4,Z,i5,i6,i7⟩ F=>?_);subst J;have Y:=H.dn Y;have Z:=H.dn Z;have H:Sep X1 N1 w1 w [bx b3 [xC e.1.1,v4,xC e.1.2.2.1,v5,xC e.1.2.2.2.2.1,xC e.1.2.2.2.2.2.1,M,X,xC e.1.2.2.2.2.2.2.2.2] 129,rl 4 qY 95 M e.1.2.2.2.2.2.2.1,rl 1 xI 2 X e.1.2.2.2.2.2.2.2.1,rw N0 1 (vQ 1 xI) 41 W e.2]:=a0 S;refine xJ ⟨⟨_,H⟩,?_⟩;refine qW 7 rfl (by kernel_rfl) (xO F rfl (fun w l=>vK F rfl) fun a F=>vZ (by kernel_rfl) (xG (oJ (xV (xA 1 F rfl fun a F=>vO F rfl rfl fun a F=>oD mL F rfl rfl rfl fun a F=>oB isAgg2 F rfl rfl (H.b 0 rfl) rfl (fun a F=>?_))))));refine xA 2 F rfl fun a F=>xJ (qV F rfl (fun p=>?_) (fun p=>?_))
 ·
  replace d:=vX p d;refine xV (xA 2 F rfl fun a F=>xJ (xR (vT ?_)));have H:=(h.1 H (Ns.all ⟨n0,⟨n0,⟨n0,⟨n0,trivial⟩⟩⟩⟩)).um;refine vJ F rfl (oE F rfl) (oE F rfl) ?_;obtain rfl:=oj d;exact⟨_,rfl,qD,rfl,((H.nl 4 qY 95).s [0] rfl rfl),(show xS (7) by decide)⟩
 replace d:=vW p d;refine xV (xA 1 F rfl fun a F=>vO F rfl rfl fun a F=>oD mL F rfl rfl rfl fun a F=>oB isAgg2 F rfl rfl (H.b 0 rfl) rfl fun a F=>xA 2 F rfl fun a F=>xJ (qV F rfl (fun t=>?_) (fun t=>?_)))
 ·
  replace d:=vX t d;refine xV (xA 2 F rfl fun a F=>xJ (xR (vT ?_)));have H:=(h.1 H (Ns.all ⟨n0,⟨n0,⟨n0,⟨n0,trivial⟩⟩⟩⟩)).um;refine vJ F rfl (oE F rfl) (oE F rfl) ?_;obtain rfl:=oj d;exact⟨_,rfl,qD,rfl,((H.nl 4 qY 95).s [0] rfl rfl),(show xS (6) by decide)⟩
 replace d:=vW t d;refine xV (xA 1 F rfl fun a F=>vO F rfl rfl fun a F=>oD mG F rfl rfl rfl fun a F=>oB isAgg91 F rfl rfl (H.b 0 rfl) rfl fun a F=>oL underlying91 F rfl rfl (H.l 1 rfl) fun a i8 F=>xA 2 F rfl fun a F=>xJ ?_);refine qV F rfl (fun y=>?_) (fun y=>?_)
 ·
  replace d:=vX y d;refine xV (xA 2 F rfl fun a F=>xJ (xR (vT ?_)));have H:=(h.1 H (Ns.all ⟨n0,⟨n0,⟨n0,⟨n0,trivial⟩⟩⟩⟩)).um;refine vJ F rfl (oE F rfl) (oE F rfl) ?_;obtain rfl:=oj d;exact⟨_,rfl,qD,rfl,((H.nl 4 qY 95).s [0] rfl rfl),(show xS (3) by decide)⟩
 replace d:=vW y d;refine xV (xA 1 F rfl fun a F=>vO F rfl rfl fun a F=>oD mG F rfl rfl rfl fun a F=>oB isAgg91 F rfl rfl (H.b 0 rfl) rfl fun a F=>xA 2 F rfl fun a F=>xJ (xR ?_));refine vT ?_;have H:=(h.1 H (Ns.all ⟨n0,⟨n0,⟨n0,⟨n0,trivial⟩⟩⟩⟩)).um;refine vJ F rfl (oE F rfl) (oE F rfl) ?_;obtain rfl:=oj d;exact⟨_,rfl,M,rfl,(H.s [3] rfl rfl),(show xS (0) by decide)⟩
def dX (N:Nat) (h:Template) (i:Instance) (p:Int):Option ((List (List Literal))×Int):=
 xZ (cQ N (Template.mk h.size h.rels) (Instance.mk i.vars i.cons) p) fun d=>
 if (d.2 != 0) then
  some ([],d.2)
 else
  xZ (ck ((d.1.length:Int) - 1)) fun n=>
  xZ (sl d.1 0 n) fun t=>
  zR (σ:=(List (List Literal))×(List Literal)) (
   qT (σ:=(List (List Literal))×(List Literal)) (ρ:=(List (List Literal))×Int) (fun (D:Nat) (e:Line) (s:(List (List Literal))×(List Literal))=>
     match s with
     | (f,c)=>
     if (e.kind==1) then
      xZ (ap c ([(Literal.mk e.var e.value)])) fun x=>
      some (.go (f,x))
     else
      if (e.kind==3) then
       xZ (vD c) fun y=>
       xZ (ap f ([y])) fun A=>
       xZ (ck ((c.length:Int) - 1)) fun B=>
       xZ (sl c 0 B) fun C=>
       some (.go (A,C))
      else
       some (.go (f,c))) t 0 ([],[])) fun(j,E)=>
  if (decide (200<(j.length:Int))) then
   some ([],3)
  else
   some (j,0)
theorem rU {B:Nat→Prop} {N:Nat} {Y:Template} {Z:Instance} {D:Int} (r:(List (List Literal))×Int) (d:dX N Y Z D=some r) {P:Value} {Q:Value} (i:World) (hN:∀ c,B c→c<i.heap.size) (A0:Bo B i (kK 2 xH) P Y) (A1:Bo B i (kK 2 xK) Q Z) (a5:xS D):Calls Tryz.prog 15 #[P,Q,xC D] i (Gv (fun v w'=>∃ (X:Value),v= .tuple #[X,xC r.2]∧Sep [] B i w' [rl 1 (vQ 2 xU) 32 X r.1]∧xS r.2)):=by
 unfold dX at d
 refine xX (L:=[(0,P),(1,Q),(2,xC D)]) func15 rfl rfl rfl (sc rfl (sc rfl (sc rfl sn))) (fun a F=>?_);have H:=Sep.start hN;refine xV ?_;obtain⟨v2,rfl,i1,h1⟩:=xH.o A0;refine oX F rfl rfl rfl H (fun a w b1 H F=>?_);obtain⟨bb,rfl,i2,h2⟩:=xK.o A1;refine oX F rfl rfl rfl H fun a w b2 H F=>xA 2 F rfl fun a F=>vG (dJ isAgg26 sizeOf26 F rfl rfl (H.b 1 rfl) rfl rfl fun a F=>dJ isAgg29 sizeOf29 F rfl rfl (H.b 0 rfl) rfl rfl fun a F=>xA 1 F rfl fun a F=>?_);obtain⟨z1,c1,d⟩:=xB d;refine oG F rfl call47 rfl (pH z1 c1 _ aA (xH.m i1 (H.a h1)) (xK.m i2 (H.a h2)) a5) (fun a T w ⟨v3,bc,S,i3⟩ F=>?_);subst T;have H:=H.r1 S n0;refine xA 5 F rfl fun a F=>xJ (xF (xV (xA 1 F rfl fun a F=>?_)));refine xA 1 F rfl fun a F=>xJ (qV F rfl (fun G=>?_) (fun G=>?_))
 ·
  replace d:=vX G d;refine xV (xA 3 F rfl fun a F=>xJ (xR (oQ (vJ F rfl (oE F rfl) (oE F rfl) ?_))));obtain rfl:=oj d;exact⟨_,rfl,qD,rfl,((H.nl 1 (vQ 2 xU) 32).s [0] rfl rfl),i3⟩
 replace d:=vW G d;refine xN (xG (xV (oR0 (R:=(vQ 2 xU)) underlying47 sizeOf32 F rfl H fun a w v4 H F=>xA 1 F rfl fun a F=>vG (oR0 (R:=xU) underlying32 sizeOf35 F rfl H (fun a w v5 H F=>?_)))));refine xA 1 F rfl fun a F=>xJ (xF (xV (xA 2 F rfl fun a F=>oL underlying91 F rfl rfl (H.l 2 rfl) (fun a i4 F=>?_))));obtain⟨bd,c2,d⟩:=xB d;refine gM F rfl rfl rfl c2 (fun a F=>?_);obtain⟨j,c3,d⟩:=xB d;refine oT underlying91 sizeOf95 F rfl rfl rfl (H.s [2,0,1,3,4] rfl rfl).lw c3 (fun a v6 H F=>?_);have H:=H.tl;refine oL underlying91 F rfl rfl (H.l 0 rfl) fun a i5 F=>xA 1 F rfl fun a F=>xJ ?_;obtain⟨o1,d,a6⟩:=xM d;refine oH (fun a w=>∃ (U:List (List Literal)) (E:Value) (s2:List Literal) (v8:Value),o1= .nx (U,s2)∧Sk a 65 [(10,E)]∧Sep [] B i w [rl 1 (vQ 2 xU) 32 E U]) ?_ ?_
 ·
  refine oJ ?_;obtain⟨a7,a8,d⟩:=qP d;refine qK (fun g a w=>∃ (h:Nat) (f:List Line) (n:List (List Literal)) (p:Value) (C:List Literal) (A:Value),(h≤j.length∧j.drop h=f)∧f.length=g∧qT a7 f h (n,C)=some o1∧Sk a 65 [(32,xC (h:Int)),(10,p),(11,A),(30,v6),(31,xC (j.length:Int))]∧Sep [] B i w [rl 4 qY 95 v6 j,rl 2 xU 35 A C,rl 1 (vQ 2 xU) 32 p n]) j.length ?_ ?_
  ·
   exact⟨0,j,[],v4,[],v5,⟨Nat.zero_le _,rfl⟩,rfl,d,F.su,(H.s [0,1,2] rfl rfl)⟩
  intro g1 a w ⟨h,f,n,p,C,A,e,a9,d,F,H⟩
  cases f with
  | nil=>
   replace d:=qO d;have q1:=qQ e.1 e.2;have V:=vS q1;refine xV (xA 1 F rfl fun a F=>xJ (xF (zD F rfl V (qJ (qM (qM (zQ ?_)))))));refine xG ?_;exact⟨n,p,C,A,(zH d),F.su,(H.s [2] rfl rfl)⟩
  | cons t f=>
   subst a9;replace e:=oZ e.2;have y1:=qX e.2.1;obtain⟨be,d,I⟩:=qG d;rw[a8] at d;have V:=vE e.1;refine xV (xA 1 F rfl fun a F=>xJ (xF (zC F rfl V (xN (xG (xF ?_))))));have j1:=gP (Nat.le_of_lt e.1) i5;have W:=zU e.1 i5;refine oJ (xV ?_);obtain⟨w1,rfl⟩:∃ x,x=w:=⟨_,rfl⟩;have bf:=H.sm;obtain⟨X1,N1,g2,e1,H,J,bg⟩:=H.fza;have h3:=g2.ld;refine oI underlying91 sizeOf95 F rfl rfl rfl h3 y1 fun a p1 h4 F=>olA isAgg95 sizeOf95 F rfl rfl H.sm h4 fun a bh h5 F=>oA zeroValue95 F rfl rfl H (fun a w b3 H F=>?_);obtain⟨rfl,i6,i7,i8,i9⟩:=qY.o h5;refine cN (vs:=[xC t.kind,xC t.var,xC t.value,xC t.con]) sizeOf95 F rfl rfl rfl H (oc rfl (oc rfl (oc rfl (oc rfl on)))) rfl rfl fun w H=>vG (oD xOw F rfl rfl rfl fun a F=>oB isAgg2 F rfl rfl (H.b 0 rfl) rfl fun a F=>xJ (oJ (xF ?_)));refine xY (xA 2 F rfl fun a F=>xJ (qV F rfl (fun K=>?_) (fun K=>?_)))
   ·
    replace d:=vX K d;refine xY (xA 1 F rfl fun a F=>oD xOn F rfl rfl rfl fun a F=>oB isAgg2 F rfl rfl (H.b 0 rfl) rfl fun a F=>oD xOp F rfl rfl rfl fun a F=>oB isAgg2 F rfl rfl (H.b 0 rfl) rfl fun a F=>vY underlying35 zeroValue35 (fun w=>by simp [sizeOf2];rfl) F rfl rfl rfl rfl rfl (oc rfl (oc rfl on)) rfl rfl fun a F=>cM (R:=xU) (y:=(Literal.mk t.var t.value)) underlying32 sizeOf35 zeroValue35 rfl rfl F rfl rfl H (Eo.agg (xU.m i7 i8)) (fun a w bi H F=>?_));obtain⟨z3,c4,d⟩:=xB d;refine oPL (sz:=2) (R:=xU) (z:=(.agg #[xC 0,xC 0])) (bytes:=16) underlying32 (by kernel_rfl) rfl rfl F rfl rfl rfl (H.s [2,0,1,3] rfl rfl) c4 fun a w aa H F=>xA 1 F rfl fun a F=>qU (vH (vH (xG (xY (vP F rfl rfl rfl W fun a F=>xA 1 F rfl fun a F=>xJ ?_)))));replace d:=vU d I;exact⟨_,Nat.lt_succ_self _,h+1,f,n,p,z3,aa,⟨e.1,e.2.2⟩,rfl,d,F.su,(J.1 (H.s [0,2] rfl rfl) (Ns.all ⟨n0,⟨n0,trivial⟩⟩))⟩
   replace d:=vW K d;refine xV (xA 2 F rfl fun a F=>xJ (qV F rfl (fun M=>?_) (fun M=>?_)))
   ·
    replace d:=vX M d;refine xV (xA 2 F rfl fun a F=>?_);obtain⟨z4,c5,d⟩:=xB d;refine oG F rfl call30 rfl (aW z4 c5 _ aA (H.l 1 rfl)) (fun a T w ⟨bj,bm,S⟩ F=>?_);subst T;have H:=H.r1 S n0;have H:=H.os;refine eZ (R:=(vQ 2 xU)) (y:=z4) underlying47 sizeOf32 zeroValue32 rfl rfl F rfl rfl H El.sl (fun a w bn H F=>?_);obtain⟨z5,c6,d⟩:=xB d;refine oPL (sz:=1) (R:=(vQ 2 xU)) (z:=(qD)) (bytes:=24) underlying47 (by kernel_rfl) rfl rfl F rfl rfl rfl (H.s [3,0,1,2] rfl rfl) c6 fun a w ab H F=>xA 1 F rfl fun a F=>xJ (xY (xA 2 F rfl fun a F=>oL underlying32 F rfl rfl (H.l 2 rfl) (fun a bp F=>?_)));obtain⟨z6,c7,d⟩:=xB d;refine gM F rfl rfl rfl c7 (fun a F=>?_);obtain⟨z7,c8,d⟩:=xB d;refine oT underlying32 sizeOf35 F rfl rfl rfl (H.s [2,0,1] rfl rfl).lw c8 (fun a ac H F=>?_);have H:=H.tl;refine xA 1 F rfl fun a F=>qU (vH (vH (xG (xY (vP F rfl rfl rfl W fun a F=>xA 1 F rfl fun a F=>xJ ?_)))));replace d:=vU d I;exact⟨_,Nat.lt_succ_self _,h+1,f,z5,ab,z7,ac,⟨e.1,e.2.2⟩,rfl,d,F.su,(J.1 (H.s [0,1] rfl rfl) (Ns.all ⟨n0,⟨n0,trivial⟩⟩))⟩
   replace d:=vW M d;refine xN (vH (vH (xG (xY (vP F rfl rfl rfl W fun a F=>xA 1 F rfl fun a F=>xJ ?_)))));replace d:=vU d I;exact⟨_,Nat.lt_succ_self _,h+1,f,n,p,C,A,⟨e.1,e.2.2⟩,rfl,d,F.su,(J.1 (H.s [1,2] rfl rfl) (Ns.all ⟨n0,⟨n0,trivial⟩⟩))⟩
 rintro a w ⟨U,E,s2,v8,rfl,F,H⟩
 have d:=xW a6;refine xG (xF (xV (xA 1 F rfl fun a F=>oL underlying47 F rfl rfl (H.l 0 rfl) fun a bq F=>xA 1 F rfl fun a F=>xJ (qV F rfl (fun O=>?_) (fun O=>?_)))))
 ·
  replace d:=vX O d;refine xV (xA 2 F rfl fun a F=>xJ (xR (oQ (vJ F rfl (oE F rfl) (oE F rfl) ?_))));obtain rfl:=oj d;exact⟨_,rfl,qD,rfl,((H.nl 1 (vQ 2 xU) 32).s [0] rfl rfl),(show xS (3) by decide)⟩
 replace d:=vW O d;refine xN (xG (xV (xA 3 F rfl fun a F=>xJ (xR (vJ F rfl (oE F rfl) (oE F rfl) ?_)))));obtain rfl:=oj d;exact⟨_,rfl,E,rfl,H,(show xS (0) by decide)⟩
def dI (N:Nat) (c:Template) (d:Instance) (f:Int):Option ((List Int)×Int×Int):=
 xZ (bO (Template.mk c.size c.rels) (Instance.mk d.vars d.cons) f) fun h=>
 if (h != 0) then
  some ([],0,h)
 else
  xZ (kX (Template.mk c.size c.rels) (Instance.mk d.vars d.cons)) fun i=>
  xZ (eH N (Template.mk c.size c.rels) (Instance.mk d.vars d.cons) i f) fun e=>
  if (e.1.2.2.2.2.2.2.2.2==7) then
   some ([],0,7)
  else
   some (e.1.2.2.2.2.2.2.2.1,e.1.2.2.2.2.2.1,e.1.2.2.2.2.2.2.2.2)
theorem mZ {B:Nat→Prop} {N:Nat} {O:Template} {P:Instance} {h:Int} (r:(List Int)×Int×Int) (d:dI N O P h=some r) {p:Value} {t:Value} (f:World) (hN:∀ c,B c→c<f.heap.size) (A0:Bo B f (kK 2 xH) p O) (A1:Bo B f (kK 2 xK) t P) (I:xS h):Calls Tryz.prog 48 #[p,t,xC h] f (Gv (fun v w'=>∃ (J:Value),v= .tuple #[J,xC r.2.1,xC r.2.2]∧Sep [] B f w' [rl 1 xI 2 J r.1]∧xS r.2.1∧xS r.2.2)):=by
 unfold dI at d
 refine xX (L:=[(0,p),(1,t),(2,xC h)]) func48 rfl rfl rfl (sc rfl (sc rfl (sc rfl sn))) (fun a F=>?_);have H:=Sep.start hN;refine xV ?_;obtain⟨v2,rfl,y,A⟩:=xH.o A0;refine oX F rfl rfl rfl H (fun a w b1 H F=>?_);obtain⟨ag,rfl,C,D⟩:=xK.o A1;refine oX F rfl rfl rfl H fun a w b2 H F=>xA 3 F rfl fun a F=>xJ (xF (xV (dJ isAgg26 sizeOf26 F rfl rfl (H.b 1 rfl) rfl rfl fun a F=>dJ isAgg29 sizeOf29 F rfl rfl (H.b 0 rfl) rfl rfl (fun a F=>?_))));refine xA 1 F rfl fun a F=>?_;obtain⟨z1,c1,d⟩:=xB d;refine oKI F rfl call26 rfl H (hU z1 c1 _ aA (xH.m y (H.a A)) (xK.m C (H.a D)) I) fun a w H Z F=>xA 1 F rfl fun a F=>vG (xA 2 F rfl fun a F=>xJ (qV F rfl (fun j=>?_) (fun j=>?_)))
 ·
  replace d:=vX j d;refine xV (xA 4 F rfl fun a F=>xJ (xR (oQ (sW F rfl (oE F rfl) (oE F rfl) (oE F rfl) ?_))));obtain rfl:=oj d;exact⟨_,rfl,qD,rfl,((H.nl 1 xI 2).s [0] rfl rfl),(show xS (0) by decide),Z⟩
 replace d:=vW j d;refine xN (xG (xF ?_));obtain⟨Q,c2,d⟩:=xB d;obtain⟨e,c3,d⟩:=xB d;obtain⟨w1,rfl⟩:∃ x,x=w:=⟨_,rfl⟩;have ah:=H.sm;obtain⟨X1,N1,R,i,H,M,ai⟩:=H.mg.fza;have K1:=R.l.bk;have T:=R.r.bk;refine xD H (by kernel_rfl) fun w H=>qE 0 rfl (by kernel_rfl) (vBA isAgg26 sizeOf26 F rfl rfl (T.v H.sm) rfl rfl fun a F=>qE 1 rfl (by kernel_rfl) (vBA isAgg29 sizeOf29 F rfl rfl (K1.v H.sm) rfl rfl fun a F=>qE 2 rfl (by kernel_rfl) (vBA isAgg26 sizeOf26 F rfl rfl (T.v H.sm) rfl rfl fun a F=>qE 3 rfl (by kernel_rfl) (vBA isAgg29 sizeOf29 F rfl rfl (K1.v H.sm) rfl rfl fun a F=>qW 5 rfl (by kernel_rfl) (xO F rfl (fun w l=>xL F rfl) (fun a F=>?_))))));refine xE H 4 rfl (by kernel_rfl) (oG F rfl call72 rfl (iC Q c2 _ aA (xH.m y (H.a (i A))) (xK.m C (H.a (i D)))) (fun a E w ⟨U,aj,S⟩ F=>?_));subst E;have H:=H.r1 S n0;refine xJ ⟨⟨_,H⟩,?_⟩;refine xE H 6 rfl (by kernel_rfl) ?_;have H:=H.lw;obtain⟨X2,K3,Y⟩:=Sep.lend (K:=[rw N0 1 (vQ 1 xI) 41 U Q]) (L:=[]) H;refine oG F rfl call74 rfl (lB e c3 _ H.hN K3 (xH.m y (H.u (i A))) (xK.m C (H.u (i D))) I) (fun a E w ⟨b3,v4,v5,V,G,ak,S,i3,W,i4,X,i5,i6,i7⟩ F=>?_);subst E;have W:=H.dn W;have X:=H.dn X;have H:Sep X1 N1 w1 w [bx b3 [xC e.1.1,v4,xC e.1.2.2.1,v5,xC e.1.2.2.2.2.1,xC e.1.2.2.2.2.2.1,V,G,xC e.1.2.2.2.2.2.2.2.2] 129,rl 4 qY 95 V e.1.2.2.2.2.2.2.1,rl 1 xI 2 G e.1.2.2.2.2.2.2.2.1,rw N0 1 (vQ 1 xI) 41 U e.2]:=Y S;refine xJ ⟨⟨_,H⟩,?_⟩;refine qW 7 rfl (by kernel_rfl) (xO F rfl (fun w l=>vK F rfl) fun a F=>vZ (by kernel_rfl) (xG (xF (xV (xA 1 F rfl fun a F=>vO F rfl rfl fun a F=>oD mL F rfl rfl rfl fun a F=>oB isAgg2 F rfl rfl (H.b 0 rfl) rfl (fun a F=>?_))))));refine xA 1 F rfl fun a F=>xJ (qV F rfl (fun n=>?_) (fun n=>?_))
 ·
  replace d:=vX n d;refine xV (xA 3 F rfl fun a F=>xJ (xR (oQ ?_)));have H:=(M.1 H (Ns.all ⟨n0,⟨n0,⟨n0,⟨n0,trivial⟩⟩⟩⟩)).um;refine sW F rfl (oE F rfl) (oE F rfl) (oE F rfl) ?_;obtain rfl:=oj d;exact⟨_,rfl,qD,rfl,((H.nl 1 xI 2).s [0] rfl rfl),(show xS (0) by decide),(show xS (7) by decide)⟩
 replace d:=vW n d;refine xN (xG (xF (xQ H (by kernel_rfl) (by kernel_rfl) (xP F rfl (fun w l=>xL F rfl) fun a F=>xP F rfl (fun w l=>vM F rfl) fun a F=>xP F rfl (fun w l=>oM wU F rfl rfl) fun a F=>qB isAgg41 F rfl rfl (H.qb 0 rfl) rfl fun a F=>xP F rfl (fun w l=>xL F rfl) fun a F=>xP F rfl (fun w l=>vM F rfl) fun a F=>xP F rfl (fun w l=>oM wR F rfl rfl) (fun a F=>?_)))));refine qB isAgg2 F rfl rfl (H.qb 0 rfl) rfl fun a F=>xP F rfl (fun w l=>xL F rfl) fun a F=>xP F rfl (fun w l=>vM F rfl) fun a F=>xP F rfl (fun w l=>oM mL F rfl rfl) fun a F=>qB isAgg2 F rfl rfl (H.qb 0 rfl) rfl fun a F=>xP F rfl (fun w l=>vK F rfl) fun a F=>xP F rfl (fun w l=>vK F rfl) fun a F=>xP F rfl (fun w l=>vK F rfl) fun a F=>kZ fun w H=>xG (xR ?_);have H:=(M.1 H (Ns.all ⟨n0,⟨n0,⟨n0,⟨n0,trivial⟩⟩⟩⟩)).um;refine sW F rfl (oE F rfl) (oE F rfl) (oE F rfl) ?_;obtain rfl:=oj d;exact⟨_,rfl,G,rfl,(H.s [4] rfl rfl),i6,i7⟩
def bQ (c:Instance):Option Instance:=
 zR (σ:=(List Con)) (
  qT (σ:=(List Con)) (ρ:=Instance) (fun (j:Nat) (d:Con) (e:(List Con))=>
   xZ (vA d.scope) fun f=>
   xZ (ap e ([(Con.mk d.rel f)])) fun h=>
   some (.go h)) c.cons 0 []) fun i=>
 some ((Instance.mk c.vars i))
theorem dH {B:Nat→Prop} {e:Instance} (r:Instance) (d:bQ e=some r) {N:Value} (D:World) (hN:∀ c,B c→c<D.heap.size) (A0:Bo B D (kK 2 xK) N e):Calls Tryz.prog 39 #[N] D (Gv (fun v w'=>∃ (Z:Value),v= .agg #[xC r.vars,Z]∧Sep [] B D w' [rl 2 oR 69 Z r.cons]∧xS r.vars)):=by
 unfold bQ at d
 refine xX (L:=[(0,N)]) func39 rfl rfl rfl (sc rfl sn) (fun a F=>?_);have H:=Sep.start hN;refine xV ?_;obtain⟨M,rfl,i1,h1⟩:=xK.o A0;refine oX F rfl rfl rfl H fun a w b1 H F=>oA zeroValue29 F rfl rfl H fun a w n H F=>vG (oD eE F rfl rfl rfl fun a F=>oB isAgg2 F rfl rfl (H.b 1 rfl) rfl fun a F=>vY underlying29 zeroValue29 (fun w=>by simp [sizeOf2,sizeOf27];rfl) F rfl rfl rfl rfl rfl (oc rfl on) rfl rfl fun a F=>oA zeroValue29 F rfl rfl H fun a w i H F=>cN (vs:=[xC e.vars,qD]) sizeOf29 F rfl rfl rfl H (oc rfl (oc rfl on)) rfl rfl (fun w H=>?_));refine xJ (xF (xV (oD zT F rfl rfl rfl fun a F=>oB isAgg27 F rfl rfl (H.b 2 rfl) rfl fun a F=>oL underlying27 F rfl rfl h1 fun a i2 F=>xA 1 F rfl fun a F=>xJ ?_)));obtain⟨o1,d,aa⟩:=xM d;refine oH (fun a w=>∃ (O:List Con) (E:Value),o1= .nx O∧Sk a 29 [(2,oO n),(3,oO i)]∧Sep [] B D w [rl 2 oR 69 E O,bx i [xC e.vars,E] 29,bx n [xC 0,qD] 29]) ?_ ?_
 ·
  refine oJ ?_;obtain⟨ab,ac,d⟩:=qP d;refine qK (fun g a w=>∃ (p:Nat) (t A:List Con) (f:Value),(p≤e.cons.length∧e.cons.drop p=t)∧t.length=g∧qT ab t p A=some o1∧Sk a 29 [(12,xC (p:Int)),(2,oO n),(3,oO i),(10,M),(11,xC (e.cons.length:Int))]∧Sep [] B D w [rl 2 oR 69 f A,bx i [xC e.vars,f] 29,bx n [xC 0,qD] 29]) e.cons.length ?_ ?_
  ·
   exact⟨0,e.cons,[],qD,⟨Nat.zero_le _,rfl⟩,rfl,d,F.su,((H.nl 2 oR 69).s [0,1,2] rfl rfl)⟩
  intro g1 a w ⟨p,t,A,f,j,ad,d,F,H⟩
  cases t with
  | nil=>
   replace d:=qO d;have q1:=qQ j.1 j.2;have P:=vS q1;refine xV (xA 1 F rfl fun a F=>xJ (xF (zD F rfl P (qJ (qM (qM (zQ ?_)))))));refine xG ?_;exact⟨A,f,(zH d),F.su,H⟩
  | cons I t=>
   subst ad;replace j:=oZ j.2;have y1:=qX j.2.1;obtain⟨az,d,ae⟩:=qG d;rw[ac] at d;have P:=vE j.1;refine xV (xA 1 F rfl fun a F=>xJ (xF (zC F rfl P (xN (xG (xF ?_))))));have j1:=gP (Nat.le_of_lt j.1) i2;have m1:=zU j.1 i2;refine oJ (xV (oI underlying27 sizeOf69 F rfl rfl rfl h1 y1 fun a p1 h2 F=>olA isAgg69 sizeOf69 F rfl rfl H.sm h2 fun a v4 h3 F=>oA zeroValue69 F rfl rfl H (fun a w b3 H F=>?_)));obtain⟨v5,rfl,i3,Q⟩:=oR.o h3;refine cN (vs:=[xC I.rel,v5]) sizeOf69 F rfl rfl rfl H (oc rfl (oc (H.a Q).one on)) rfl rfl fun w H=>xJ ?_;obtain⟨C,c1,d⟩:=xB d;obtain⟨z2,c2,d⟩:=xB d;obtain⟨T,rfl⟩:∃ x,x=w:=⟨_,rfl⟩;have b0:=H.sm;obtain⟨U,V,g2,e1,H,af,ab1⟩:=H.fza;have K1:=g2.bk;refine xD H (by kernel_rfl) fun w H=>dp (fun G=>∀ (W:Value) (a:Act) (w:World),Sk a 29 [(2,oO n),(3,oO i),(10,M),(11,xC (e.cons.length:Int)),(12,xC (p:Int)),(17,f),(24,W)]→Sep U V T w [rl 2 oR 69 W ([(Con.mk I.rel C)]),rl 2 oR 69 f A,bx i [xC e.vars,f] 29,bx n [xC 0,qD] 29]→∀ h,h = #[true,true,true,true,true,true,true,true,true,false,false,false]→G 3 h a w) ?_ (fun H1=>?_)
   ·
    intro W a w F H h J;subst J;refine xE H 9 rfl (by kernel_rfl) (oPL (sz:=2) (R:=oR) (z:=(.agg #[xC 0,qD])) (bytes:=32) underlying27 (by kernel_rfl) rfl rfl F rfl rfl rfl (H.s [1,0,2,3] rfl rfl) c2 fun a w v7 H F=>xJ ⟨⟨_,H⟩,?_⟩);refine qE 10 rfl (by kernel_rfl) (xO F rfl (fun w l=>oM zT F rfl rfl) fun a F=>xE H 11 rfl (by kernel_rfl) (oW sizeOf27 F rfl rfl rfl (H.s [1,0,2] rfl rfl) ((H.s [1,0,2] rfl rfl).l 1 rfl).one rfl rfl fun w H=>xJ ⟨⟨_,H⟩,?_⟩));refine vZ (by kernel_rfl) (vH (xG (xY (vP F rfl rfl rfl m1 fun a F=>xA 1 F rfl fun a F=>xJ ?_))));replace d:=vU d ae;exact⟨_,Nat.lt_succ_self _,p+1,t,z2,v7,⟨j.1,j.2.2⟩,rfl,d,F.su,((af.1 H (Ns.all ⟨n0,⟨n0,⟨n0,trivial⟩⟩⟩)).s [2,1,3] rfl rfl)⟩
   refine dp (fun G=>∀ (X:Value) (a:Act) (w:World),Sk a 29 [(2,oO n),(3,oO i),(10,M),(11,xC (e.cons.length:Int)),(12,xC (p:Int)),(17,f),(23,(.agg #[xC I.rel,X]))]→Sep U V T w [rl 1 xI 2 X C,rl 2 oR 69 f A,bx i [xC e.vars,f] 29,bx n [xC 0,qD] 29]→∀ h,h = #[true,true,true,true,true,true,true,true,false,false,false,false]→G 4 h a w) ?_ (fun H2=>?_)
   ·
    intro X a w F H h J;subst J;refine xE H 8 rfl (by kernel_rfl) ?_;have H:=(oR.w i3 H);refine eZ (R:=oR) (y:=(Con.mk I.rel C)) underlying27 sizeOf69 zeroValue69 rfl rfl F rfl rfl H El.agg fun a w v9 H F=>xJ ⟨⟨_,H⟩,?_⟩;exact H1 v9 _ _ (F.su) H _ (by kernel_rfl)
   refine dp (fun G=>∀ (K:Value) (a:Act) (w:World),Sk a 29 [(2,oO n),(3,oO i),(10,M),(11,xC (e.cons.length:Int)),(12,xC (p:Int)),(17,f),(19,xC I.rel),(22,K)]→Sep U V T w [rl 1 xI 2 K C,rl 2 oR 69 f A,bx i [xC e.vars,f] 29,bx n [xC 0,qD] 29]→∀ h,h = #[true,true,true,true,true,true,true,false,false,false,false,false]→G 5 h a w) ?_ (fun H3=>?_)
   ·
    intro K a w F H h J;subst J;refine xE H 7 rfl (by kernel_rfl) (vY underlying69 zeroValue69 (fun w=>by simp [sizeOf2,sizeOf41];rfl) F rfl rfl rfl rfl rfl (oc rfl (oc (H.l 0 rfl).one on)) rfl rfl fun a F=>xJ ⟨⟨_,H⟩,?_⟩);exact H2 K _ _ (F.su) H _ (by kernel_rfl)
   refine qE 0 rfl (by kernel_rfl) (xO F rfl (fun w l=>oM zT F rfl rfl) fun a F=>qE 2 rfl (by kernel_rfl) (xO F rfl (fun w l=>oM lX F rfl rfl) fun a F=>qE 3 rfl (by kernel_rfl) (vB isAgg2 F rfl rfl (K1.v H.sm) rfl fun a F=>qE 4 rfl (by kernel_rfl) (xO F rfl (fun w l=>oM bM F rfl rfl) fun a F=>qE 5 rfl (by kernel_rfl) (vB isAgg41 F rfl rfl (K1.v H.sm) rfl fun a F=>kP [1,6] (by kernel_rfl) (by simp) ⟨⟨_,rfl,?_⟩,⟨_,rfl,?_⟩,trivial⟩)))))
   ·
    refine kJ H (oB isAgg27 F rfl rfl (H.b 1 rfl) rfl fun a F=>xJ ⟨⟨_,H⟩,?_⟩);refine xE H 6 rfl (by kernel_rfl) (oG F rfl call86 rfl (zO C c1 _ aA (H.a (e1 Q))) (fun a Y w ⟨ag,b2,S⟩ F=>?_));subst Y;have H:=H.r1 S n0;refine xJ ⟨⟨_,H⟩,?_⟩;exact H3 ag _ _ (F.su) H _ (by kernel_rfl)
   refine kJ H (oG F rfl call86 rfl (zO C c1 _ aA (H.a (e1 Q))) (fun a Y w ⟨a0,hv2,S⟩ F=>?_));subst Y;have H:=H.r1 S n0;refine xJ ⟨⟨_,H⟩,?_⟩;refine kP [1,7] (by kernel_rfl) (by simp) ⟨⟨_,rfl,?_⟩,⟨_,rfl,?_⟩,trivial⟩
   ·
    refine kJ H (oB isAgg27 F rfl rfl (H.b 2 rfl) rfl fun a F=>xJ ⟨⟨_,H⟩,?_⟩);exact H3 a0 _ _ (F.su) H _ (by kernel_rfl)
   refine kJ H (vY underlying69 zeroValue69 (fun w=>by simp [sizeOf2,sizeOf41];rfl) F rfl rfl rfl rfl rfl (oc rfl (oc (H.l 0 rfl).one on)) rfl rfl fun a F=>xJ ⟨⟨_,H⟩,?_⟩);refine kP [1,8] (by kernel_rfl) (by simp) ⟨⟨_,rfl,?_⟩,⟨_,rfl,?_⟩,trivial⟩
   ·
    refine kJ H (oB isAgg27 F rfl rfl (H.b 2 rfl) rfl fun a F=>xJ ⟨⟨_,H⟩,?_⟩);exact H2 a0 _ _ (F.su) H _ (by kernel_rfl)
   refine kJ H ?_;have H:=(oR.w i3 H);refine eZ (R:=oR) (y:=(Con.mk I.rel C)) underlying27 sizeOf69 zeroValue69 rfl rfl F rfl rfl H El.agg fun a w ah H F=>xJ ⟨⟨_,H⟩,?_⟩;refine xE H 1 rfl (by kernel_rfl) (oB isAgg27 F rfl rfl (H.b 2 rfl) rfl fun a F=>xJ ⟨⟨_,H⟩,?_⟩);exact H1 ah _ _ (F.su) H _ (by kernel_rfl)
 rintro a w ⟨O,E,rfl,F,H⟩
 have d:=xW aa;refine xG (xV (dJ isAgg29 sizeOf29 F rfl rfl (H.b 1 rfl) rfl rfl fun a F=>cN (vs:=[xC e.vars,E]) sizeOf29 F rfl rfl rfl (H.s [2,0,1] rfl rfl) (oc rfl (oc ((H.s [2,0,1] rfl rfl).l 1 rfl).one on)) rfl rfl fun w H=>xJ (xR (xT F rfl (kF (arr:=#[xC e.vars,E]) F isAgg29 sizeOf29 rfl (H.b 0 rfl)) ?_))));obtain rfl:=oj d;exact⟨_,rfl,E,rfl,(H.s [1] rfl rfl),i1⟩
def lR (c:Instance) (e:List Int):Option Instance:=
 zR (σ:=(List Con)) (
  qT (σ:=(List Con)) (ρ:=Instance) (fun (p:Nat) (f:Int) (h:(List Con))=>
   xZ (ix c.cons f) fun i=>
   xZ (ap h ([i])) fun j=>
   some (.go j)) e 0 []) fun n=>
 xZ (bQ (Instance.mk c.vars n)) fun d=>
 some ((Instance.mk d.vars d.cons))
theorem xEf {B:Nat→Prop} {i:Instance} {f:List Int} (r:Instance) (d:lR i f=some r) {M:Value} {E:Value} (j:World) (hN:∀ c,B c→c<j.heap.size) (A0:Bo B j (kK 2 xK) M i) (Y:Bo B j (Sl 1 xI) E f):Calls Tryz.prog 51 #[M,E] j (Gv (fun v w'=>∃ (X:Value),v= .agg #[xC r.vars,X]∧Sep [] B j w' [rl 2 oR 69 X r.cons]∧xS r.vars)):=by
 unfold lR at d
 refine xX (L:=[(0,M),(1,E)]) func51 rfl rfl rfl (sc rfl (sc rfl sn)) (fun a F=>?_);have H:=Sep.start hN;refine xV ?_;obtain⟨v2,rfl,i1,h1⟩:=xK.o A0;refine oX F rfl rfl rfl H fun a w N H F=>oA zeroValue29 F rfl rfl H fun a w D H F=>vG (oD eE F rfl rfl rfl fun a F=>oB isAgg2 F rfl rfl (H.b 1 rfl) rfl fun a F=>vY underlying29 zeroValue29 (fun w=>by simp [sizeOf2,sizeOf27];rfl) F rfl rfl rfl rfl rfl (oc rfl on) rfl rfl fun a F=>oA zeroValue29 F rfl rfl H fun a w A H F=>cN (vs:=[xC i.vars,qD]) sizeOf29 F rfl rfl rfl H (oc rfl (oc rfl on)) rfl rfl (fun w H=>?_));refine xJ (xF (xV (xA 1 F rfl fun a F=>oL underlying41 F rfl rfl Y fun a Z F=>xA 1 F rfl fun a F=>xJ ?_)));obtain⟨o1,d,a3⟩:=xM d;refine oH (fun a w=>∃ (O:List Con) (P:Value),o1= .nx O∧Sk a 30 [(4,oO D),(5,oO A)]∧Sep [] B j w [rw B 2 oR 69 P O,bx A [xC i.vars,P] 29,bx D [xC 0,qD] 29]) ?_ ?_
 ·
  refine oJ ?_;obtain⟨a4,a5,d⟩:=qP d;refine qK (fun g a w=>∃ (n:Nat) (p:List Int) (I:List Con) (t:Value),(n≤f.length∧f.drop n=p)∧p.length=g∧qT a4 p n I=some o1∧Sk a 30 [(13,xC (n:Int)),(2,oO N),(4,oO D),(5,oO A),(11,E),(12,xC (f.length:Int))]∧Sep [] B j w [rw B 2 oR 69 t I,bx A [xC i.vars,t] 29,bx D [xC 0,qD] 29,bx N [xC i.vars,v2] 29]) f.length ?_ ?_
  ·
   exact⟨0,f,[],qD,⟨Nat.zero_le _,rfl⟩,rfl,d,F.su,(H.nl 2 oR 69).lw.wk⟩
  intro g1 a w ⟨n,p,I,t,e,a6,d,F,H⟩
  cases p with
  | nil=>
   replace d:=qO d;have q1:=qQ e.1 e.2;have Q:=vS q1;refine xV (xA 1 F rfl fun a F=>xJ (xF (zD F rfl Q (qJ (qM (qM (zQ ?_)))))));refine xG ?_;exact⟨I,t,(zH d),F.su,(H.s [0,1,2] rfl rfl)⟩
  | cons x2 p=>
   subst a6;replace e:=oZ e.2;have y1:=qX e.2.1;obtain⟨az,d,a7⟩:=qG d;rw[a5] at d;have Q:=vE e.1;refine xV (xA 1 F rfl fun a F=>xJ (xF (zC F rfl Q (xN (xG (xF ?_))))));have j1:=gP (Nat.le_of_lt e.1) Z;have m1:=zU e.1 Z;refine oJ (xV (oI underlying41 sizeOf2 F rfl rfl rfl Y y1 fun a p1 h2 F=>olI isAgg2 F rfl rfl H.sm h2 fun a i3 F=>xA 1 F rfl fun a F=>xJ ?_));obtain⟨T,c1,d⟩:=xB d;obtain⟨z2,c2,d⟩:=xB d;obtain⟨w1,rfl⟩:∃ x,x=w:=⟨_,rfl⟩;have J:=H.sm;obtain⟨X1,N2,g2,e1,H,C,b0⟩:=(H.s [3,0,1,2] rfl rfl).fza;have K1:=g2.bk;refine xD H (by kernel_rfl) fun w H=>dp (fun G=>∀ (U:Value) (a:Act) (w:World),Sk a 30 [(2,oO N),(4,oO D),(5,oO A),(11,E),(12,xC (f.length:Int)),(13,xC (n:Int)),(18,t),(24,U)]→Sep X1 N2 w1 w [rw B 2 oR 69 U ([T]),rw B 2 oR 69 t I,bx A [xC i.vars,t] 29,bx D [xC 0,qD] 29]→∀ V,V = #[true,true,true,true,true,true,true,true,false,false,false]→G 3 V a w) ?_ (fun H1=>?_)
   ·
    intro U a w F H V a8;subst a8;refine xE H 8 rfl (by kernel_rfl) (oP (sz:=2) (R:=oR) (z:=(.agg #[xC 0,qD])) (bytes:=32) underlying27 (by kernel_rfl) rfl rfl F rfl rfl rfl (H.s [1,0,2,3] rfl rfl) c2 fun a w v6 H F=>xJ ⟨⟨_,H⟩,?_⟩);refine qE 9 rfl (by kernel_rfl) (xO F rfl (fun w l=>oM zT F rfl rfl) fun a F=>xE H 10 rfl (by kernel_rfl) (oW sizeOf27 F rfl rfl rfl (H.s [1,0,2] rfl rfl) ((H.s [1,0,2] rfl rfl).r 1 rfl).one rfl rfl fun w H=>xJ ⟨⟨_,H⟩,?_⟩));refine vZ (by kernel_rfl) (vH (xG (xY (vP F rfl rfl rfl m1 fun a F=>xA 1 F rfl fun a F=>xJ ?_))));replace d:=vU d a7;exact⟨_,Nat.lt_succ_self _,n+1,p,z2,v6,⟨e.1,e.2.2⟩,rfl,d,F.su,((C.1 H (Ns.all ⟨n0,⟨n1,⟨n0,trivial⟩⟩⟩)).s [2,1,3,0] rfl rfl)⟩
   refine qE 0 rfl (by kernel_rfl) (xO F rfl (fun w l=>oM zT F rfl rfl) fun a F=>qE 2 rfl (by kernel_rfl) (xO F rfl (fun w l=>oM zT F rfl rfl) fun a F=>qE 3 rfl (by kernel_rfl) (vB isAgg27 F rfl rfl (K1.v H.sm) rfl fun a F=>qW 4 rfl (by kernel_rfl) (xO F rfl (fun w l=>xL F rfl) fun a F=>qE 5 rfl (by kernel_rfl) (vI underlying27 sizeOf69 F rfl rfl rfl h1 c1 fun a p2 h3 F=>qE 6 rfl (by kernel_rfl) ?_)))));refine vlA isAgg69 sizeOf69 F rfl rfl (fun w l=>(J.trans (Sm.mono (H.v w l) C.2.2))) h3 fun a v7 h4 F=>kP [1,7] (by kernel_rfl) (by simp) ⟨⟨_,rfl,?_⟩,⟨_,rfl,?_⟩,trivial⟩
   ·
    refine kJ H (oB isAgg27 F rfl rfl (H.b 1 rfl) rfl fun a F=>xJ ⟨⟨_,H⟩,?_⟩);refine xE H 7 rfl (by kernel_rfl) (oR1 (R:=oR) (y:=T) (N1:=B) underlying27 sizeOf69 zeroValue69 rfl rfl F rfl rfl H (fun c h=>(C.2.2 c h)) (Eo.agg (Bo.to h4 (J.trans (Sm.mono H.sm C.2.2)))) fun a w v8 H F=>xJ ⟨⟨_,H⟩,?_⟩);exact H1 v8 _ _ (F.su) H _ (by kernel_rfl)
   refine kJ H (oR1 (R:=oR) (y:=T) (N1:=B) underlying27 sizeOf69 zeroValue69 rfl rfl F rfl rfl H (fun c h=>(C.2.2 c h)) (Eo.agg (Bo.to h4 (J.trans (Sm.mono H.sm C.2.2)))) fun a w v9 H F=>xJ ⟨⟨_,H⟩,?_⟩);refine xE H 1 rfl (by kernel_rfl) (oB isAgg27 F rfl rfl (H.b 2 rfl) rfl fun a F=>xJ ⟨⟨_,H⟩,?_⟩);exact H1 v9 _ _ (F.su) H _ (by kernel_rfl)
 rintro a w ⟨O,P,rfl,F,H⟩
 have d:=xW a3;refine xG (xV (dJ isAgg29 sizeOf29 F rfl rfl (H.b 1 rfl) rfl rfl (fun a F=>?_)));obtain⟨W,c3,d⟩:=xB d;refine oG F rfl call39 rfl (dH W c3 _ aA (xK.m i1 (H.r 0 rfl))) (fun a vv w ⟨K,b1,S,i4⟩ F=>?_);subst vv;have H:=H.r1 S n0;refine cN (vs:=[xC W.vars,K]) sizeOf29 F rfl rfl rfl (H.s [3,0,1,2] rfl rfl) (oc rfl (oc ((H.s [3,0,1,2] rfl rfl).l 1 rfl).one on)) rfl rfl fun w H=>xJ (xR (xT F rfl (kF (arr:=#[xC W.vars,K]) F isAgg29 sizeOf29 rfl (H.b 0 rfl)) ?_));obtain rfl:=oj d;exact⟨_,rfl,K,rfl,(H.s [1] rfl rfl),i4⟩
def cP (N:Nat) (d:Template) (c:Instance) (f:Int):Option ((List Int)×Int):=
 xZ (dI N (Template.mk d.size d.rels) (Instance.mk c.vars c.cons) f) fun e=>
 if (e.2.2==0) then
  some ([],4)
 else
  if (e.2.2==6) then
   xZ (fN 0 (c.cons.length:Int)) fun p=>
   zR (σ:=(List Int)) (
    qT (σ:=(List Int)) (ρ:=(List Int)×Int) (fun (t:Nat) (y:Con) (h:(List Int))=>
     xZ (aP N h (t:Int)) fun i=>
     xZ (lR (Instance.mk c.vars c.cons) i) fun j=>
     xZ (dI N (Template.mk d.size d.rels) (Instance.mk j.vars j.cons) f) fun n=>
     if (n.2.2==7) then
      some (.ret ([],7))
     else
      if (n.2.2==6) then
       some (.go i)
      else
       some (.go h)) c.cons 0 p) fun x=>
   some (x,0)
  else
   some ([],e.2.2)
theorem pG {B:Nat→Prop} {N:Nat} {M:Template} {h:Instance} {p:Int} (r:(List Int)×Int) (d:cP N M h p=some r) {O:Value} {P:Value} (j:World) (hN:∀ c,B c→c<j.heap.size) (A0:Bo B j (kK 2 xH) O M) (A1:Bo B j (kK 2 xK) P h) (T:xS p):Calls Tryz.prog 16 #[O,P,xC p] j (Gv (fun v w'=>∃ (U:Value),v= .tuple #[U,xC r.2]∧Sep [] B j w' [rl 1 xI 2 U r.1]∧xS r.2)):=by
 unfold cP at d
 refine xX (L:=[(0,O),(1,P),(2,xC p)]) func16 rfl rfl rfl (sc rfl (sc rfl (sc rfl sn))) (fun a F=>?_);have H:=Sep.start hN;refine xV ?_;obtain⟨v2,rfl,W,X⟩:=xH.o A0;refine oX F rfl rfl rfl H (fun a w Y H F=>?_);obtain⟨a8,rfl,Z,A⟩:=xK.o A1;refine oX F rfl rfl rfl H fun a w b2 H F=>xA 2 F rfl fun a F=>vG (dJ isAgg26 sizeOf26 F rfl rfl (H.b 1 rfl) rfl rfl fun a F=>dJ isAgg29 sizeOf29 F rfl rfl (H.b 0 rfl) rfl rfl fun a F=>xA 1 F rfl fun a F=>?_);obtain⟨z1,c1,d⟩:=xB d;refine oG F rfl call48 rfl (mZ z1 c1 _ aA (xH.m W (H.a X)) (xK.m Z (H.a A)) T) (fun a f w ⟨v3,az,S,i3,i4⟩ F=>?_);subst f;have H:=H.r1 S n0;refine xA 7 F rfl fun a F=>xJ (xF (xF ?_));refine xY (xA 1 F rfl fun a F=>xJ (oJ (xV (xA 2 F rfl fun a F=>xJ ?_))));refine qV F rfl (fun D=>?_) (fun D=>?_)
 ·
  replace d:=vX D d;refine xV (xA 2 F rfl fun a F=>xJ (xR (vT (oQ (vJ F rfl (oE F rfl) (oE F rfl) ?_)))));obtain rfl:=oj d;exact⟨_,rfl,qD,rfl,((H.nl 1 xI 2).s [0] rfl rfl),(show xS (4) by decide)⟩
 replace d:=vW D d;refine xV (xA 2 F rfl fun a F=>xJ (qV F rfl (fun E=>?_) (fun E=>?_)))
 ·
  replace d:=vX E d;refine xN (vH (xG (xV (oD zT F rfl rfl rfl fun a F=>oB isAgg27 F rfl rfl (H.b 1 rfl) rfl fun a F=>oL underlying27 F rfl rfl A (fun a i5 F=>?_)))));obtain⟨z2,c2,d⟩:=xB d;refine oG F rfl call49 rfl (uX z2 c2 _ aA (show xS (0) by decide) i5) (fun a f w ⟨a9,b0,S⟩ F=>?_);subst f;have H:=H.r1 S n0;refine xA 1 F rfl fun a F=>xJ (xF (xV (oD zT F rfl rfl rfl fun a F=>oB isAgg27 F rfl rfl (H.b 2 rfl) rfl fun a F=>oL underlying27 F rfl rfl A fun a i6 F=>xA 1 F rfl fun a F=>qU ?_)));refine xG ?_;obtain⟨o1,d,V⟩:=xM d;refine oH (fun a w=>∃ (Q:List Int) (C:Value),o1= .nx Q∧Sk a 62 [(11,C)]∧Sep [] B j w [rl 1 xI 2 C Q]) ?_ ?_
  ·
   refine oJ ?_;obtain⟨aa,ab,d⟩:=qP d;refine qK (fun g a w=>∃ (n:Nat) (i:List Con) (t:List Int) (y:Value),(n≤h.cons.length∧h.cons.drop n=i)∧i.length=g∧qT aa i n t=some o1∧Sk a 62 [(38,xC (n:Int)),(2,xC p),(3,oO Y),(4,oO b2),(11,y),(37,xC (h.cons.length:Int))]∧Sep [] B j w [rl 1 xI 2 y t,bx b2 [xC h.vars,a8] 29,bx Y [xC M.size,v2] 26]) h.cons.length ?_ ?_
   ·
    exact⟨0,h.cons,z2,a9,⟨Nat.zero_le _,rfl⟩,rfl,d,F.su,(H.s [0,2,3] rfl rfl)⟩
   intro g1 a w ⟨n,i,t,y,e,ac,d,F,H⟩
   cases i with
   | nil=>
    replace d:=qO d;have q1:=qQ e.1 e.2;have R:=vS q1;refine xV (xA 1 F rfl fun a F=>xJ (xF (zD F rfl R (qJ (qM (qM (zQ ?_)))))));refine xG ?_;exact⟨t,y,(zH d),F.su,(H.s [0] rfl rfl)⟩
   | cons x3 i=>
    subst ac;replace e:=oZ e.2;have y1:=qX e.2.1;obtain⟨b1,d,G⟩:=qG d;rw[ab] at d;have R:=vE e.1;refine xV (xA 1 F rfl fun a F=>xJ (xF (zC F rfl R (xN (xG (xF ?_))))));have j1:=gP (Nat.le_of_lt e.1) i6;have m1:=zU e.1 i6;refine oJ (xV (xA 2 F rfl fun a F=>vG (xA 2 F rfl fun a F=>?_)));obtain⟨z3,c3,d⟩:=xB d;refine oG F rfl call50 rfl (lU z3 c3 _ aA (H.l 0 rfl) j1) (fun a f w ⟨v6,hv3,S⟩ F=>?_);subst f;have H:=H.r1 S n0;refine xA 1 F rfl fun a F=>xJ (xF ?_);obtain⟨z4,c4,d⟩:=xB d;obtain⟨z5,c5,d⟩:=xB d;obtain⟨w1,rfl⟩:∃ x,x=w:=⟨_,rfl⟩;have b3:=H.sm;obtain⟨X1,N1,g2,e1,H,I,b4⟩:=(H.s [2,3,0,1] rfl rfl).mg.fza;have K1:=g2.l.bk;have K2:=g2.r.bk;refine xD H (by kernel_rfl) fun w H=>qE 0 rfl (by kernel_rfl) (vBA isAgg26 sizeOf26 F rfl rfl (K2.v H.sm) rfl rfl fun a F=>qE 1 rfl (by kernel_rfl) (vBA isAgg29 sizeOf29 F rfl rfl (K1.v H.sm) rfl rfl fun a F=>qW 2 rfl (by kernel_rfl) (xO F rfl (fun w l=>xL F rfl) fun a F=>qW 4 rfl (by kernel_rfl) (xO F rfl (fun w l=>xL F rfl) fun a F=>xE H 3 rfl (by kernel_rfl) (oG F rfl call51 rfl (xEf z4 c4 _ aA (xK.m Z (H.a (e1 A))) (H.l 0 rfl)) (fun a f w ⟨v7,b5,S,i7⟩ F=>?_))))));subst f;have H:=H.r1 S n0;refine xJ ⟨⟨_,H⟩,?_⟩;refine xE H 5 rfl (by kernel_rfl) (oG F rfl call48 rfl (mZ z5 c5 _ aA (xH.m W (H.a (e1 X))) (xK.m i7 (H.l 0 rfl)) T) (fun a f w ⟨v8,b6,S,i8,i9⟩ F=>?_));subst f;have H:=H.r1 S n0;refine xJ ⟨⟨_,H⟩,?_⟩;refine qW 6 rfl (by kernel_rfl) (xO F rfl (fun w l=>xL F rfl) fun a F=>qW 7 rfl (by kernel_rfl) (xO F rfl (fun w l=>eV F rfl rfl) fun a F=>qW 8 rfl (by kernel_rfl) (xO F rfl (fun w l=>eV F rfl rfl) fun a F=>qW 9 rfl (by kernel_rfl) (xO F rfl (fun w l=>eV F rfl rfl) fun a F=>qW 10 rfl (by kernel_rfl) (xO F rfl (fun w l=>vK F rfl) fun a F=>qW 11 rfl (by kernel_rfl) ?_)))));refine xO F rfl (fun w l=>vK F rfl) fun a F=>qW 12 rfl (by kernel_rfl) (xO F rfl (fun w l=>vK F rfl) fun a F=>vZ (by kernel_rfl) (xG (xV (xA 1 F rfl fun a F=>xJ (oJ ?_)))));refine xV (xA 2 F rfl fun a F=>xJ (qV F rfl (fun J=>?_) (fun J=>?_)))
    ·
     replace d:=vX J d;refine xV (xA 2 F rfl fun a F=>xJ (xR (vT (vT (oQ (oQ ?_))))));replace d:=kD d G;refine vT (oQ ?_);replace d:=zZ d V;refine oQ ?_;have H:=(I.1 H (Ns.all ⟨n0,⟨n0,⟨n0,⟨n0,trivial⟩⟩⟩⟩)).um;refine vJ F rfl (oE F rfl) (oE F rfl) ?_;obtain rfl:=oj d;exact⟨_,rfl,qD,rfl,((H.nl 1 xI 2).s [0] rfl rfl),(show xS (7) by decide)⟩
    replace d:=vW J d;refine xV (xA 2 F rfl fun a F=>xJ (qV F rfl (fun K=>?_) (fun K=>?_)))
    ·
     replace d:=vX K d;refine xY (xA 2 F rfl fun a F=>qU (vH (vH (xG (xY (vP F rfl rfl rfl m1 fun a F=>xA 1 F rfl fun a F=>qU ?_))))));refine xG ?_;replace d:=vU d G;exact⟨_,Nat.lt_succ_self _,n+1,i,z3,v6,⟨e.1,e.2.2⟩,rfl,d,F.su,((I.1 (H.s [2] rfl rfl) (Ns.all ⟨n0,trivial⟩)).um.s [2,0,1] rfl rfl)⟩
    replace d:=vW K d;refine xN (vH (vH (xG (xY (vP F rfl rfl rfl m1 fun a F=>xA 1 F rfl fun a F=>xJ ?_)))));replace d:=vU d G;exact⟨_,Nat.lt_succ_self _,n+1,i,t,y,⟨e.1,e.2.2⟩,rfl,d,F.su,((I.1 (H.s [3] rfl rfl) (Ns.all ⟨n0,trivial⟩)).um.s [2,0,1] rfl rfl)⟩
  rintro a w ⟨Q,C,rfl,F,H⟩
  have d:=xW V;refine xG (xV (xA 3 F rfl fun a F=>xJ (xR (vJ F rfl (oE F rfl) (oE F rfl) ?_))));obtain rfl:=oj d;exact⟨_,rfl,C,rfl,H,(show xS (0) by decide)⟩
 replace d:=vW E d;refine xV (xA 3 F rfl fun a F=>xJ (xR (vT (oQ (vJ F rfl (oE F rfl) (oE F rfl) ?_)))));obtain rfl:=oj d;exact⟨_,rfl,qD,rfl,((H.nl 1 xI 2).s [0] rfl rfl),i4⟩
def dM (N:Nat) (d:solver) (c:List Int):Option ((List Int)×Bool):=
 zR (σ:=Unit) (
  qT (σ:=Unit) (ρ:=(List Int)×Bool) (fun (f:Nat) (n:Int) (s:Unit)=>
    match s with
    | _=>
    xZ (ck ((f:Int)+1)) fun h=>
    xZ (sl c 0 h) fun i=>
    xZ (aU N d i) fun j=>
    if (!j) then
     some (.ret ([],false))
    else
     some (.go ())) c 0 ()) fun _=>
 xZ (aI (fun a _=>some (false,a)) N d c ([])) fun e=>
 some (e.2,(!e.1))
theorem rR {B:Nat→Prop} {N:Nat} {K:solver} {i:List Int} (r:(List Int)×Bool) (d:dM N K i=some r) {t:Value} {x:Value} (j:World) (W:∀ c,B c→c<j.heap.size) (M:Bo B j (Pt 4 kU) t K) (D:Bo B j (Sl 1 xI) x i):Calls Tryz.prog 60 #[t,x] j (Gv (fun v w'=>∃ (G:Value),v= .tuple #[G,.bool r.2]∧Sep [] B j w' [rl 1 xI 2 G r.1])):=by
 unfold dM at d
 refine xX (L:=[(0,t),(1,x)]) func60 rfl rfl rfl (sc rfl (sc rfl sn)) (fun a F=>?_);have H:=Sep.start W;refine xV (xA 2 F rfl fun a F=>xJ (xF (xV (xA 1 F rfl fun a F=>oL underlying41 F rfl rfl D (fun a O F=>?_)))));refine xA 1 F rfl fun a F=>xJ ?_;obtain⟨P,d,I⟩:=xM d;refine oH (fun a w=>P= .nx ()∧Sk a 29 [(0,t),(1,x)]∧Sep [] B j w []) ?_ ?_
 ·
  refine oJ ?_;obtain⟨R,T,d⟩:=qP d;refine qK (fun g a w=>∃ (p:Nat) (n:List Int),(p≤i.length∧i.drop p=n)∧n.length=g∧qT R n p ()=some P∧Sk a 29 [(11,xC (p:Int)),(0,t),(1,x),(10,xC (i.length:Int))]∧Sep [] B j w []) i.length ?_ ?_
  ·
   exact⟨0,i,⟨Nat.zero_le _,rfl⟩,rfl,d,F.su,H⟩
  intro g1 a w ⟨p,n,e,U,d,F,H⟩
  cases n with
  | nil=>
   replace d:=qO d;have X:=qQ e.1 e.2;have E:=vS X;refine xV (xA 1 F rfl fun a F=>xJ (xF (zD F rfl E (qJ (qM (qM (zQ ?_)))))));refine xG ?_;exact⟨(zH d),F.su,H⟩
  | cons x2 n=>
   subst U;replace e:=oZ e.2;have y1:=qX e.2.1;obtain⟨a7,d,J⟩:=qG d;rw[T] at d;have E:=vE e.1;refine xV (xA 1 F rfl fun a F=>xJ (xF (zC F rfl E (xN (xG (xF ?_))))));have j1:=gP (Nat.le_of_lt e.1) O;have Y:=zU e.1 O;refine oJ (xV (xA 2 F rfl fun a F=>vG (xA 2 F rfl fun a F=>?_)));refine xA 1 F rfl fun a F=>?_;obtain⟨z1,Z,d⟩:=xB d;refine cX F rfl rfl rfl Z (fun a F=>?_);obtain⟨z2,c2,d⟩:=xB d;refine oC underlying41 sizeOf2 F rfl rfl rfl rfl D c2 (fun a v2 h1 F=>?_);obtain⟨z3,c3,d⟩:=xB d;refine oK F rfl call91 rfl H (mC z3 c3 _ aA (H.a M) (H.a h1)) fun a w H F=>xA 1 F rfl fun a F=>xJ (qV F rfl (fun C=>?_) (fun C=>?_))
   ·
    replace d:=vX C d;refine xV (xA 2 F rfl fun a F=>xJ (xR (vT (oQ (oQ ?_)))));replace d:=kD d J;refine vT (oQ ?_);replace d:=zZ d I;refine oQ (vJ F rfl (oE F rfl) (oE F rfl) ?_);obtain rfl:=oj d;exact⟨_,rfl,qD,rfl,(H.nl 1 xI 2)⟩
   replace d:=vW C d;refine xN (vH (xG (xY (vP F rfl rfl rfl Y fun a F=>xA 1 F rfl fun a F=>xJ ?_))));replace d:=vU d J;exact⟨_,Nat.lt_succ_self _,p+1,n,⟨e.1,e.2.2⟩,rfl,d,F.su,H⟩
 rintro a w ⟨rfl,F,H⟩
 have d:=xW I;refine xG (xV (oA zeroValue41 F rfl rfl H fun a w y H F=>vG (xA 2 F rfl fun a F=>mW F rfl rfl rfl (fun a F=>?_))));have H:=H.nl 1 xI 2;obtain⟨Q,c4,d⟩:=xB d;obtain⟨X1,K1,V⟩:=Sep.lend1 (A:=bI y ([])) (Sep.exI (f:=fun v=>pr (bx y [v] 41) (rl 1 xI 2 v ([]))) (b:=qD) ((H.s [1,0] rfl rfl)).mg);refine oG F rfl call44 rfl (rX (fun _ _ h=>h) call96 (xKd y) N Q c4 _ K1 (H.u M) (H.u D)) (fun a vv w ⟨hv,S⟩ F=>?_);subst vv;obtain⟨v3,H⟩:=Sep.exE (f:=fun v=>pr (bx y [v] 41) (rl 1 xI 2 v Q.2)) (V S);have H:=H.um;refine xA 2 F rfl fun a F=>vG (oB isAgg41 F rfl rfl (H.b 0 rfl) rfl fun a F=>xA 3 F rfl fun a F=>qU ?_);refine xG (xR (vJ F rfl (oE F rfl) (oE F rfl) ?_));obtain rfl:=oj d;exact⟨_,rfl,v3,rfl,(H.s [1] rfl rfl)⟩
def bR (N:Nat) (c:Template) (d:Instance):Option ((List Int)×Int):=
 xZ (kT (Template.mk c.size c.rels) (Instance.mk d.vars d.cons)) fun f=>
 if (!f) then
  some ([],1)
 else
  xZ (eT (Template.mk c.size c.rels) (Instance.mk d.vars d.cons)) fun h=>
  xZ (dM N h ([])) fun e=>
  if (!e.2) then
   some ([],6)
  else
   some (e.1,0)
theorem jU {B:Nat→Prop} {N:Nat} {y:Template} {A:Instance} (r:(List Int)×Int) (d:bR N y A=some r) {i:Value} {j:Value} (e:World) (I:∀ c,B c→c<e.heap.size) (J:Bo B e (kK 2 xH) i y) (K:Bo B e (kK 2 xK) j A):Calls Tryz.prog 20 #[i,j] e (Gv (fun v w'=>∃ (t:Value),v= .tuple #[t,xC r.2]∧Sep [] B e w' [rl 1 xI 2 t r.1]∧xS r.2)):=by
 unfold bR at d
 refine xX (L:=[(0,i),(1,j)]) func20 rfl rfl rfl (sc rfl (sc rfl sn)) (fun a F=>?_);have H:=Sep.start I;refine xV ?_;obtain⟨v2,rfl,C,D⟩:=xH.o J;refine oX F rfl rfl rfl H (fun a w b1 H F=>?_);obtain⟨X,rfl,E,G⟩:=xK.o K;refine oX F rfl rfl rfl H fun a w b2 H F=>xA 2 F rfl fun a F=>xJ (xF (xV (dJ isAgg26 sizeOf26 F rfl rfl (H.b 1 rfl) rfl rfl fun a F=>dJ isAgg29 sizeOf29 F rfl rfl (H.b 0 rfl) rfl rfl (fun a F=>?_))));obtain⟨M,O,d⟩:=xB d;refine oK F rfl call34 rfl H (dL M O _ aA (xH.m C (H.a D)) (xK.m E (H.a G))) fun a w H F=>xA 1 F rfl fun a F=>xJ (qV F rfl (fun f=>?_) (fun f=>?_))
 ·
  replace d:=vX f d;refine xV (xA 2 F rfl fun a F=>xJ (xR (oQ (vJ F rfl (oE F rfl) (oE F rfl) ?_))));obtain rfl:=oj d;exact⟨_,rfl,qD,rfl,((H.nl 1 xI 2).s [0] rfl rfl),(show xS (1) by decide)⟩
 replace d:=vW f d;refine xN (xG (xV (dJ isAgg26 sizeOf26 F rfl rfl (H.b 1 rfl) rfl rfl fun a F=>dJ isAgg29 sizeOf29 F rfl rfl (H.b 0 rfl) rfl rfl (fun a F=>?_))));obtain⟨P,Q,d⟩:=xB d;refine oG F rfl call43 rfl (nK P Q _ H.hN (xH.m C (H.u D)) (xK.m E (H.u G))) (fun a n w ⟨v3,Y,S⟩ F=>?_);subst n;have H:=H.r1 S n1;obtain⟨w1,rfl⟩:∃ x,x=w:=⟨_,rfl⟩;have Z:=H.sm;obtain⟨X1,N1,R,e1,H,p,a0⟩:=H.fza;have T:=R.rod;obtain⟨U,V,d⟩:=xB d;refine oG F rfl call60 rfl (rR U V _ aA (H.a T) Bo.snil) (fun a n w ⟨W,a1,S⟩ F=>?_);subst n;have H:=H.r1 S n0;refine xA 5 F rfl fun a F=>xJ (xF (xV (xA 1 F rfl fun a F=>?_)));refine xA 1 F rfl fun a F=>xJ (qV F rfl (fun h=>?_) (fun h=>?_))
 ·
  replace d:=vX h d;refine xV (xA 2 F rfl fun a F=>xJ (xR (oQ ?_)));have H:=(p.1 H (Ns.all ⟨n0,⟨n0,⟨n0,trivial⟩⟩⟩));refine vJ F rfl (oE F rfl) (oE F rfl) ?_;obtain rfl:=oj d;exact⟨_,rfl,qD,rfl,((H.nl 1 xI 2).s [0] rfl rfl),(show xS (6) by decide)⟩
 replace d:=vW h d;refine xN (xG (xV (xA 3 F rfl fun a F=>xJ (xR ?_))));have H:=(p.1 H (Ns.all ⟨n0,⟨n0,⟨n0,trivial⟩⟩⟩));refine vJ F rfl (oE F rfl) (oE F rfl) ?_;obtain rfl:=oj d;exact⟨_,rfl,W,rfl,(H.s [1] rfl rfl),(show xS (0) by decide)⟩
end Go.Proofs.YtncganhbpbehaaaGreat
