import Derived.Test.YtncganhbpbehaaaGreatP0
import Derived.Test.YtncganhbpbehaaaGreatNJ
namespace Go.Proofs.YtncganhbpbehaaaGreat
open Go.Proofs.Tryz
set_option maxHeartbeats 1000000
set_option linter.unusedVariables false
set_option linter.unusedSimpArgs false
set_option maxRecDepth 100000
open Go.RowKit
def bP (c d e:Int):Option Bool:=
 zR (σ:=Bool) (
  if (decide (d≤c)) then  some (.nx (decide (c≤e))) else  some (.nx false)) fun f=>
 some f
theorem bU {B:Nat→Prop} {e h i:Int} (r:Bool) (d:bP e h i=some r)  (j:World) (t:∀ c,B c→c<j.heap.size) (y:xS e) (A:xS h) (C:xS i):Calls Tryz.prog 65 #[xC e,xC h,xC i] j (kL (.bool r) j):=by
 unfold bP at d
 refine xX (L:=[(0,xC e),(1,xC h),(2,xC i)]) func65 rfl rfl rfl (sc rfl (sc rfl (sc rfl sn))) (fun a F=>?_);have H:=Sep.start t;refine xV (xA 1 F rfl fun a F=>xJ (xF ?_));obtain⟨x,d,p⟩:=xM d;refine oH (fun a w=>∃ (n:Bool),x= .nx n∧Sk a 15 [(6,.bool n)]∧Sep [] B j w []) ?_ ?_
 ·
  refine xY (xA 4 F rfl fun a F=>?_)
  rcases vR (decide (h≤e)) with f | f
  ·
   replace d:=vX f d;have F:=F.eb 10 rfl f;refine xA 5 F rfl fun a F=>xJ ?_;exact⟨(decide (e≤i)),(zH d),F.su,H⟩
  replace d:=vW f d;have F:=F.eb 10 rfl f;refine xA 5 F rfl fun a F=>xJ ?_;exact⟨false,(zH d),F.su,H⟩
 rintro a w ⟨n,rfl,F,H⟩
 have d:=xW p;refine xG (xR (xT F rfl (oE F rfl) ?_));obtain rfl:=oj d;exact⟨rfl,H.bl⟩
def gI (c:Int):Option Bool:=
 xZ (bP c 1 4) fun d=>
 some d
theorem pP {B:Nat→Prop} {d:Int} (r:Bool) (e:gI d=some r)  (f:World) (i:∀ c,B c→c<f.heap.size) (h:xS d):Calls Tryz.prog 104 #[xC d] f (kL (.bool r) f):=by
 unfold gI at e
 refine xX (L:=[(0,xC d)]) func104 rfl rfl rfl (sc rfl sn) (fun a F=>?_);have H:=Sep.start i;refine xV (xA 1 F rfl fun a F=>vG (xA 1 F rfl fun a F=>?_));obtain⟨j,n,e⟩:=xB e;refine oK F rfl call65 rfl H (bU j n _ aA h (show xS (1) by decide) (show xS (4) by decide)) fun a w H F=>xA 1 F rfl fun a F=>xJ (xR (xT F rfl (oE F rfl) ?_));obtain rfl:=oj e;exact⟨rfl,H.bl⟩
def gR (c:Int):Option Bool:=
 xZ (bP c 1 4) fun d=>
 some d
theorem wB {B:Nat→Prop} {d:Int} (r:Bool) (e:gR d=some r)  (f:World) (i:∀ c,B c→c<f.heap.size) (h:xS d):Calls Tryz.prog 132 #[xC d] f (kL (.bool r) f):=by
 unfold gR at e
 refine xX (L:=[(0,xC d)]) func132 rfl rfl rfl (sc rfl sn) (fun a F=>?_);have H:=Sep.start i;refine xV (xA 1 F rfl fun a F=>vG (xA 1 F rfl fun a F=>?_));obtain⟨j,n,e⟩:=xB e;refine oK F rfl call65 rfl H (bU j n _ aA h (show xS (1) by decide) (show xS (4) by decide)) fun a w H F=>xA 1 F rfl fun a F=>xJ (xR (xT F rfl (oE F rfl) ?_));obtain rfl:=oj e;exact⟨rfl,H.bl⟩
def fM (d e:Int) (c:List Int):Option Bool:=
 zR (σ:=Unit) (
  qT (σ:=Unit) (ρ:=Bool) (fun (j:Nat) (f:Int) (s:Unit)=>
    match s with
    | _=>
    xZ (ck (d - 1)) fun h=>
    xZ (bP f 0 h) fun i=>
    if (!i) then
     some (.ret false)
    else
     some (.go ())) c 0 ()) fun _=>
 some (((c.length:Int)==e))
theorem wG {B:Nat→Prop} {p h:Int} {i:List Int} (r:Bool) (d:fM p h i=some r) {t:Value} (j:World) (N:∀ c,B c→c<j.heap.size) (V:xS p) (W:xS h) (x:Bo B j (Sl 1 xI) t i):Calls Tryz.prog 133 #[xC p,xC h,t] j (kL (.bool r) j):=by
 unfold fM at d
 refine xX (L:=[(0,xC p),(1,xC h),(2,t)]) func133 rfl rfl rfl (sc rfl (sc rfl (sc rfl sn))) (fun a F=>?_);have H:=Sep.start N;refine xV (xA 1 F rfl fun a F=>xJ (xF (xV (xA 1 F rfl fun a F=>xJ ?_))));obtain⟨E,d,C⟩:=xM d;refine oH (fun a w=>E= .nx ()∧Sk a 26 [(1,xC h),(2,t)]∧Sep [] B j w []) ?_ ?_
 ·
  refine oJ ?_;obtain⟨K,M,d⟩:=qP d;refine qK (fun g a w=>∃ (n:Nat) (f:List Int),(n≤i.length∧i.drop n=f)∧f.length=g∧qT K f n ()=some E∧Sk a 26 [(7,xC (n:Int)),(0,xC p),(1,xC h),(2,t)]∧Sep [] B j w []) i.length ?_ ?_
  ·
   exact⟨0,i,⟨Nat.zero_le _,rfl⟩,rfl,d,F.su,H⟩
  intro Y a w ⟨n,f,e,J,d,F,H⟩
  cases f with
  | nil=>
   replace d:=qO d;have O:=qQ e.1 e.2;have A:=vS O;refine xF (xV (xA 2 F rfl fun a F=>oL underlying41 F rfl rfl x fun a Z F=>xA 1 F rfl fun a F=>xJ (zD F rfl A (qJ ?_))));refine qM (qM (zQ (xG ?_)));exact⟨(zH d),F.su,H⟩
  | cons x3 f=>
   subst J;replace e:=oZ e.2;have P:=qX e.2.1;obtain⟨X,d,D⟩:=qG d;rw[M] at d;have A:=vE e.1;refine xF (xV (xA 2 F rfl fun a F=>oL underlying41 F rfl rfl x fun a G F=>xA 1 F rfl fun a F=>xJ (zC F rfl A (xN ?_))));refine xG (xF ?_);have j1:=gP (Nat.le_of_lt e.1) G;have Q:=zU e.1 G;refine oJ (xV (xA 2 F rfl fun a F=>oI underlying41 sizeOf2 F rfl rfl rfl x P fun a p1 R F=>olI isAgg2 F rfl rfl H.sm R fun a S F=>xA 1 F rfl fun a F=>?_));obtain⟨z1,I,d⟩:=xB d;refine gM F rfl rfl rfl I (fun a F=>?_);obtain⟨T,U,d⟩:=xB d;refine oK F rfl call65 rfl H (bU T U _ aA S (show xS (0) by decide) (kV I)) fun a w H F=>xA 1 F rfl fun a F=>xJ (qV F rfl (fun y=>?_) (fun y=>?_))
   ·
    replace d:=vX y d;refine xV (xA 1 F rfl fun a F=>xJ (xR (vT (oQ (oQ ?_)))));replace d:=kD d D;refine vT (oQ ?_);replace d:=zZ d C;refine oQ (xT F rfl (oE F rfl) ?_);obtain rfl:=oj d;exact⟨rfl,H.bl⟩
   replace d:=vW y d;refine xN (vH (xG (xY (xA 1 F rfl fun a F=>vP F rfl rfl rfl Q fun a F=>xA 1 F rfl fun a F=>xJ ?_))));replace d:=vU d D;exact⟨_,Nat.lt_succ_self _,n+1,f,⟨e.1,e.2.2⟩,rfl,d,F.su,H⟩
 rintro a w ⟨rfl,F,H⟩
 have d:=xW C;refine xG (xV (xA 1 F rfl fun a F=>oL underlying41 F rfl rfl x fun a i4 F=>xA 3 F rfl fun a F=>xJ (xR ?_)));refine xT F rfl (oE F rfl) ?_;obtain rfl:=oj d;exact⟨rfl,H.bl⟩
def eN (e f:List Int):Option Bool:=
 zR (σ:=Unit) (
  qT (σ:=Unit) (ρ:=Bool) (fun (h:Nat) (c:Int) (s:Unit)=>
    match s with
    | _=>
    xZ (ix f (h:Int)) fun d=>
    if (c != d) then
     some (.ret ((decide (c<d))))
    else
     some (.go ())) e 0 ()) fun _=>
 some false
theorem tX {B:Nat→Prop} {i D:List Int} (r:Bool) (d:eN i D=some r) {n:Value} {p:Value} (f:World) (P:∀ c,B c→c<f.heap.size) (t:Bo B f (Sl 1 xI) n i) (E:Bo B f (Sl 1 xI) p D):Calls Tryz.prog 134 #[n,p] f (kL (.bool r) f):=by
 unfold eN at d
 refine xX (L:=[(0,n),(1,p)]) func134 rfl rfl rfl (sc rfl (sc rfl sn)) (fun a F=>?_);have H:=Sep.start P;refine xV (xA 1 F rfl fun a F=>xJ (xF (xV (xA 1 F rfl fun a F=>xJ ?_))));obtain⟨G,d,A⟩:=xM d;refine oH (fun a w=>G= .nx ()∧Sk a 30 []∧Sep [] B f w []) ?_ ?_
 ·
  refine oJ ?_;obtain⟨M,N,d⟩:=qP d;refine qK (fun g a w=>∃ (j:Nat) (h:List Int),(j≤i.length∧i.drop j=h)∧h.length=g∧qT M h j ()=some G∧Sk a 30 [(5,xC (j:Int)),(0,n),(1,p)]∧Sep [] B f w []) i.length ?_ ?_
  ·
   exact⟨0,i,⟨Nat.zero_le _,rfl⟩,rfl,d,F.su,H⟩
  intro X a w ⟨j,h,e,O,d,F,H⟩
  cases h with
  | nil=>
   replace d:=qO d;have Q:=qQ e.1 e.2;have y:=vS Q;refine xF (xV (xA 2 F rfl fun a F=>oL underlying41 F rfl rfl t fun a Y F=>xA 1 F rfl fun a F=>xJ (zD F rfl y (qJ ?_))));refine qM (qM (zQ (xG ?_)));exact⟨(zH d),F.sub sn,H⟩
  | cons Z h=>
   subst O;replace e:=oZ e.2;have I:=qX e.2.1;obtain⟨W,d,C⟩:=qG d;rw[N] at d;have y:=vE e.1;refine xF (xV (xA 2 F rfl fun a F=>oL underlying41 F rfl rfl t fun a J F=>xA 1 F rfl fun a F=>xJ (zC F rfl y (xN ?_))));refine xG (xF ?_);have j1:=gP (Nat.le_of_lt e.1) J;have R:=zU e.1 J;refine oJ (xF (xQ H (by kernel_rfl) (by kernel_rfl) (xP F rfl (fun w l=>xL F rfl) fun a F=>xP F rfl (fun w l=>xL F rfl) fun a F=>qI underlying41 sizeOf2 F rfl rfl rfl t I fun a p1 S F=>qlI isAgg2 F rfl rfl H.q S fun a i3 F=>xP F rfl (fun w l=>xL F rfl) fun a F=>xP F rfl (fun w l=>xL F rfl) (fun a F=>?_))));obtain⟨z1,K,d⟩:=xB d;refine qI underlying41 sizeOf2 F rfl rfl rfl E K fun a p2 T F=>qlI isAgg2 F rfl rfl H.q T fun a i4 F=>xP F rfl (fun w l=>sC F rfl rfl) fun a F=>kZ fun w H=>xG (qV F rfl (fun x=>?_) (fun x=>?_))
   ·
    replace d:=vX x d;refine xF (xQ H (by kernel_rfl) (by kernel_rfl) (xP F rfl (fun w l=>xL F rfl) fun a F=>xP F rfl (fun w l=>xL F rfl) fun a F=>qI underlying41 sizeOf2 F rfl rfl rfl t I fun a p3 U F=>qlI isAgg2 F rfl rfl H.q U fun a i5 F=>xP F rfl (fun w l=>xL F rfl) fun a F=>xP F rfl (fun w l=>xL F rfl) fun a F=>qI underlying41 sizeOf2 F rfl rfl rfl E K fun a p4 V F=>qlI isAgg2 F rfl rfl H.q V fun a i6 F=>xP F rfl (fun w l=>sB F rfl rfl) (fun a F=>?_)));refine xP F rfl (fun w l=>vK F rfl) fun a F=>kZ fun w H=>xG (xR (vT (oQ (oQ ?_))));replace d:=kD d C;refine vT (oQ ?_);replace d:=zZ d A;refine oQ (xT F rfl (oE F rfl) ?_);obtain rfl:=oj d;exact⟨rfl,H.bl⟩
   replace d:=vW x d;refine xN (vH (xG (xY (xA 1 F rfl fun a F=>vP F rfl rfl rfl R fun a F=>xA 1 F rfl fun a F=>xJ ?_))));replace d:=vU d C;exact⟨_,Nat.lt_succ_self _,j+1,h,⟨e.1,e.2.2⟩,rfl,d,F.su,H⟩
 rintro a w ⟨rfl,F,H⟩
 have d:=xW A;refine xG (xV (xA 1 F rfl fun a F=>xJ (xR (xT F rfl (oE F rfl) ?_))));obtain rfl:=oj d;exact⟨rfl,H.bl⟩
def iB (d:Int) (c:Rel):Option Bool:=
 zR (σ:=Bool) (
  xZ (gI d) fun h=>
  if (!h) then  some (.nx true) else  xZ (gR c.arity) fun i=>
   some (.nx (!i))) fun j=>
 if j then
  some false
 else
  zR (σ:=Unit) (
   qT (σ:=Unit) (ρ:=Bool) (fun (e:Nat) (f:(List Int)) (s:Unit)=>
     match s with
     | _=>
     zR (σ:=Bool) (
      xZ (fM d c.arity f) fun n=>
      if (!n) then  some (.nx true) else  if (decide (0<(e:Int))) then  xZ (ck ((e:Int) - 1)) fun p=>
        xZ (ix c.tuples p) fun t=>
        xZ (eN t f) fun x=>
        some (.nx (!x)) else  some (.nx false)) fun y=>
     if y then
      some (.ret false)
     else
      some (.go ())) c.tuples 0 ()) fun _=>
  some true
theorem xDf {B:Nat→Prop} {n:Int} {t:Rel} (r:Bool) (d:iB n t=some r) {x:Value} (i:World) (hN:∀ c,B c→c<i.heap.size) (K:xS n) (e:Bo B i (Pt 2 oV) x t):Calls Tryz.prog 103 #[xC n,x] i (kL (.bool r) i):=by
 unfold iB at d
 refine xX (L:=[(0,xC n),(1,x)]) func103 rfl rfl rfl (sc rfl (sc rfl sn)) (fun a F=>?_);have H:=Sep.start hN;refine xV (xA 1 F rfl fun a F=>xJ (xF (xF ?_)));obtain⟨o1,d,V⟩:=xM d;refine oH (fun a w=>∃ (G:Bool),o1= .nx G∧Sk a 63 [(0,xC n),(1,x),(16,.bool G)]∧Sep [] B i w []) ?_ ?_
 ·
  refine xY (xA 1 F rfl fun a F=>?_);obtain⟨O,c1,d⟩:=xB d;refine oK F rfl call104 rfl H (pP O c1 _ aA K) fun a w H F=>xA 2 F rfl fun a F=>?_
  rcases vR (!O) with y | y
  ·
   replace d:=vX y d;have F:=F.eb 9 rfl y;refine xA 7 F rfl fun a F=>xJ ?_;exact⟨true,(zH d),F.su,H⟩
  replace d:=vW y d;have F:=F.eb 9 rfl y;refine xA 1 F rfl fun a F=>oN F rfl rfl e fun a F=>oF (s':=1) mU F rfl rfl e oV.f0 fun a p1 h1 F=>olI isAgg2 F rfl rfl H.sm h1 (fun a i1 F=>?_);obtain⟨P,c2,d⟩:=xB d;refine oK F rfl call132 rfl H (wB P c2 _ aA i1) fun a w H F=>xA 2 F rfl fun a F=>xJ ?_;exact⟨(!P),(zH d),F.su,H⟩
 rintro a w ⟨G,rfl,F,H⟩
 have d:=xW V;refine xG (qV F rfl (fun D=>?_) (fun D=>?_))
 ·
  replace d:=vX D d;refine xV (xA 1 F rfl fun a F=>xJ (xR (oQ (xT F rfl (oE F rfl) ?_))));obtain rfl:=oj d;exact⟨rfl,H.bl⟩
 replace d:=vW D d;refine xN (xG (xF (xV (xA 1 F rfl fun a F=>xJ ?_))));obtain⟨Q,d,M⟩:=xM d;refine oH (fun a w=>Q= .nx ()∧Sk a 63 []∧Sep [] B i w []) ?_ ?_
 ·
  refine oJ ?_;obtain⟨W,X,d⟩:=qP d;refine qK (fun g a w=>∃ (j:Nat) (p:List (List Int)),(j≤t.tuples.length∧t.tuples.drop j=p)∧p.length=g∧qT W p j ()=some Q∧Sk a 63 [(5,xC (j:Int)),(0,xC n),(1,x)]∧Sep [] B i w []) t.tuples.length ?_ ?_
  ·
   exact⟨0,t.tuples,⟨Nat.zero_le _,rfl⟩,rfl,d,F.su,H⟩
  intro g1 a w ⟨j,p,f,Y,d,F,H⟩
  cases p with
  | nil=>
   replace d:=qO d;have q1:=qQ f.1 f.2;have I:=vS q1;refine xF (xV (xA 2 F rfl fun a F=>oN F rfl rfl e fun a F=>oF (s':=1) bG F rfl rfl e oV.f1 fun a p2 h2 F=>olS isAgg38 F rfl rfl H.sm h2 fun a v2 h3 F=>oL underlying38 F rfl rfl h3 fun a i2 F=>xA 1 F rfl fun a F=>qU ?_));refine xG (zD F rfl I (qJ (qM (qM (zQ (xG ?_))))));exact⟨(zH d),F.sub sn,H⟩
  | cons x2 p=>
   subst Y;replace f:=oZ f.2;have R:=qX f.2.1;obtain⟨ay,d,N⟩:=qG d;rw[X] at d;have I:=vE f.1;refine xF (xV (xA 2 F rfl fun a F=>oN F rfl rfl e fun a F=>oF (s':=1) bG F rfl rfl e oV.f1 fun a p3 h4 F=>olS isAgg38 F rfl rfl H.sm h4 fun a v3 h5 F=>oL underlying38 F rfl rfl h5 fun a S F=>xA 1 F rfl fun a F=>qU ?_));refine xG (zC F rfl I (xN (xG (xF ?_))));have j1:=gP (Nat.le_of_lt f.1) S;have m1:=zU f.1 S;refine oJ (xF ?_);obtain⟨o3,d,Z⟩:=xM d;refine oH (fun a w=>∃ (J:Bool),o3= .nx J∧Sk a 63 [(0,xC n),(1,x),(5,xC (j:Int)),(62,.bool J)]∧Sep [] B i w []) ?_ ?_
   ·
    refine xQ H (by kernel_rfl) (by kernel_rfl) (xP F rfl (fun w l=>xL F rfl) fun a F=>xP F rfl (fun w l=>xL F rfl) fun a F=>qN F rfl rfl e fun a F=>qF (s':=1) mU F rfl rfl e oV.f0 fun a p4 h6 F=>qlI isAgg2 F rfl rfl H.q h6 fun a i4 F=>xP F rfl (fun w l=>xL F rfl) fun a F=>qN F rfl rfl e fun a F=>qF (s':=1) bG F rfl rfl e oV.f1 fun a p5 h7 F=>qlS isAgg38 F rfl rfl H.q h7 fun a v4 h8 F=>xP F rfl (fun w l=>xL F rfl) (fun a F=>?_));refine qI underlying38 sizeOf41 F rfl rfl rfl h8 R fun a p6 h9 F=>qlS isAgg41 F rfl rfl H.q h9 (fun a v5 a0 F=>?_);obtain⟨T,c3,d⟩:=xB d;refine fX F rfl call133 rfl (fun w w' h l=>l.through h) (fun w l=>wG T c3 w aA K i4 ((H.go l).a a0)) fun a F=>xP F rfl (fun w l=>lD F rfl) fun a F=>xP F rfl (fun w l=>xL F rfl) (fun a F=>?_)
    rcases vR (!T) with A | A
    ·
     replace d:=vX A d;have F:=F.eb 40 rfl A;refine qR F rfl rfl fun a F=>qR F rfl rfl fun a F=>qR F rfl rfl fun a F=>qR F rfl rfl fun a F=>qR F rfl rfl fun a F=>qR F rfl rfl fun a F=>qR F rfl rfl fun a F=>qR F rfl rfl fun a F=>qR F rfl rfl fun a F=>qR F rfl rfl fun a F=>qR F rfl rfl (fun a F=>?_);refine qR F rfl rfl fun a F=>qR F rfl rfl fun a F=>qR F rfl rfl fun a F=>qR F rfl rfl fun a F=>qR F rfl rfl fun a F=>qR F rfl rfl fun a F=>qR F rfl rfl fun a F=>qR F rfl rfl fun a F=>qR F rfl rfl fun a F=>qR F rfl rfl fun a F=>xP F rfl (fun w l=>cD F rfl rfl) (fun a F=>?_);refine kZ fun w H=>xG ?_;exact⟨true,(zH d),F.su,H⟩
    replace d:=vW A d;have F:=F.eb 40 rfl A;refine xP F rfl (fun w l=>xL F rfl) fun a F=>xP F rfl (fun w l=>wZ F rfl rfl) fun a F=>xP F rfl (fun w l=>xL F rfl) (fun a F=>?_)
    rcases vR (decide (0<(j:Int))) with C | C
    ·
     replace d:=vX C d;have F:=F.eb 43 rfl C;refine xP F rfl (fun w l=>xL F rfl) fun a F=>qN F rfl rfl e fun a F=>qF (s':=1) bG F rfl rfl e oV.f1 fun a p7 a1 F=>qlS isAgg38 F rfl rfl H.q a1 fun a v6 a2 F=>xP F rfl (fun w l=>xL F rfl) (fun a F=>?_);obtain⟨z4,c4,d⟩:=xB d;refine xP F rfl (fun w l=>rC F rfl rfl c4) (fun a F=>?_);obtain⟨z5,c5,d⟩:=xB d;refine qI underlying38 sizeOf41 F rfl rfl rfl a2 c5 fun a p8 a3 F=>qlS isAgg41 F rfl rfl H.q a3 fun a v7 a4 F=>xP F rfl (fun w l=>xL F rfl) fun a F=>qN F rfl rfl e fun a F=>qF (s':=1) bG F rfl rfl e oV.f1 fun a p9 a5 F=>qlS isAgg38 F rfl rfl H.q a5 fun a v8 a6 F=>xP F rfl (fun w l=>xL F rfl) fun a F=>qI underlying38 sizeOf41 F rfl rfl rfl a6 R fun a az a7 F=>qlS isAgg41 F rfl rfl H.q a7 (fun a v9 a8 F=>?_);obtain⟨U,c6,d⟩:=xB d;refine fX F rfl call134 rfl (fun w w' h l=>l.through h) (fun w l=>tX U c6 w aA ((H.go l).a a4) ((H.go l).a a8)) fun a F=>xP F rfl (fun w l=>lD F rfl) fun a F=>xP F rfl (fun w l=>cD F rfl rfl) fun a F=>xP F rfl (fun w l=>cG F rfl rfl) fun a F=>kZ fun w H=>xG ?_;exact⟨(!U),(zH d),F.su,H⟩
    replace d:=vW C d;have F:=F.eb 43 rfl C;refine qR F rfl rfl fun a F=>qR F rfl rfl fun a F=>qR F rfl rfl fun a F=>qR F rfl rfl fun a F=>qR F rfl rfl fun a F=>qR F rfl rfl fun a F=>qR F rfl rfl fun a F=>qR F rfl rfl fun a F=>qR F rfl rfl fun a F=>qR F rfl rfl fun a F=>qR F rfl rfl (fun a F=>?_);refine qR F rfl rfl fun a F=>qR F rfl rfl fun a F=>qR F rfl rfl fun a F=>qR F rfl rfl fun a F=>qR F rfl rfl fun a F=>qR F rfl rfl fun a F=>xP F rfl (fun w l=>cG F rfl rfl) fun a F=>xP F rfl (fun w l=>cG F rfl rfl) fun a F=>kZ fun w H=>xG ?_;exact⟨false,(zH d),F.su,H⟩
   rintro a w ⟨J,rfl,F,H⟩
   have d:=xW Z;refine xG (qV F rfl (fun E=>?_) (fun E=>?_))
   ·
    replace d:=vX E d;refine xV (xA 1 F rfl fun a F=>xJ (xR (vT (oQ (oQ ?_)))));replace d:=kD d N;refine vT (oQ ?_);replace d:=zZ d M;refine oQ (xT F rfl (oE F rfl) ?_);obtain rfl:=oj d;exact⟨rfl,H.bl⟩
   replace d:=vW E d;refine xN (vH (xG (xY (xA 1 F rfl fun a F=>vP F rfl rfl rfl m1 fun a F=>xA 1 F rfl fun a F=>xJ ?_))));replace d:=vU d N;exact⟨_,Nat.lt_succ_self _,j+1,p,⟨f.1,f.2.2⟩,rfl,d,F.su,H⟩
 rintro a w ⟨rfl,F,H⟩
 have d:=xW M;refine xG (xV (xA 1 F rfl fun a F=>xJ (xR (xT F rfl (oE F rfl) ?_))));obtain rfl:=oj d;exact⟨rfl,H.bl⟩
def eO (c:Template):Option Bool:=
 zR (σ:=Unit) (
  qT (σ:=Unit) (ρ:=Bool) (fun (i:Nat) (d:Rel) (s:Unit)=>
    match s with
    | _=>
    xZ (iB c.size d) fun e=>
    if (!e) then
     some (.ret false)
    else
     some (.go ())) c.rels 0 ()) fun _=>
 zR (σ:=Bool) (
  xZ (gI c.size) fun f=>
  if f then  some (.nx (decide ((c.rels.length:Int)≤6))) else  some (.nx false)) fun h=>
 some h
theorem sX {B:Nat→Prop} {i:Template} (r:Bool) (d:eO i=some r) {x:Value} (j:World) (R:∀ c,B c→c<j.heap.size) (e:Bo B j (Pt 2 xH) x i):Calls Tryz.prog 64 #[x] j (kL (.bool r) j):=by
 unfold eO at d
 refine xX (L:=[(0,x)]) func64 rfl rfl rfl (sc rfl sn) (fun a F=>?_);have H:=Sep.start R;refine xV (xA 1 F rfl fun a F=>xJ (xF (xV (xA 1 F rfl fun a F=>xJ ?_))));obtain⟨G,d,D⟩:=xM d;refine oH (fun a w=>G= .nx ()∧Sk a 38 [(0,x)]∧Sep [] B j w []) ?_ ?_
 ·
  refine oJ ?_;obtain⟨K,M,d⟩:=qP d;refine qK (fun g a w=>∃ (p:Nat) (n:List Rel),(p≤i.rels.length∧i.rels.drop p=n)∧n.length=g∧qT K n p ()=some G∧Sk a 38 [(3,xC (p:Int)),(0,x)]∧Sep [] B j w []) i.rels.length ?_ ?_
  ·
   exact⟨0,i.rels,⟨Nat.zero_le _,rfl⟩,rfl,d,F.su,H⟩
  intro g1 a w ⟨p,n,f,N,d,F,H⟩
  cases n with
  | nil=>
   replace d:=qO d;have S:=qQ f.1 f.2;have A:=vS S;refine xF (xV (xA 2 F rfl fun a F=>oN F rfl rfl e fun a F=>oF (s':=1) kG F rfl rfl e xH.f1 fun a p1 T F=>olS isAgg24 F rfl rfl H.sm T fun a aa U F=>oL underlying24 F rfl rfl U fun a i1 F=>xA 1 F rfl fun a F=>qU ?_));refine xG (zD F rfl A (qJ (qM (qM (zQ (xG ?_))))));exact⟨(zH d),F.su,H⟩
  | cons x1 n=>
   subst N;replace f:=oZ f.2;have V:=qX f.2.1;obtain⟨ab,d,E⟩:=qG d;rw[M] at d;have A:=vE f.1;refine xF (xV (xA 2 F rfl fun a F=>oN F rfl rfl e fun a F=>oF (s':=1) kG F rfl rfl e xH.f1 fun a p2 W F=>olS isAgg24 F rfl rfl H.sm W fun a v1 X F=>oL underlying24 F rfl rfl X fun a I F=>xA 1 F rfl fun a F=>qU ?_));refine xG (zC F rfl A (xN (xG (xF ?_))));have j1:=gP (Nat.le_of_lt f.1) I;have Y:=zU f.1 I;refine oJ (xF (xQ H (by kernel_rfl) (by kernel_rfl) (xP F rfl (fun w l=>xL F rfl) fun a F=>qN F rfl rfl e fun a F=>qF (s':=1) iD F rfl rfl e xH.f0 fun a p3 Z F=>qlI isAgg2 F rfl rfl H.q Z fun a i3 F=>xP F rfl (fun w l=>xL F rfl) fun a F=>qN F rfl rfl e fun a F=>qF (s':=1) kG F rfl rfl e xH.f1 fun a p4 h6 F=>qlS isAgg24 F rfl rfl H.q h6 (fun a v2 h7 F=>?_))));refine xP F rfl (fun w l=>xL F rfl) fun a F=>qI underlying24 sizeOf66 F rfl rfl rfl h7 V (fun a p5 h8 F=>?_);obtain⟨z1,c1,d⟩:=xB d;refine fX F rfl call103 rfl (fun w w' h l=>l.through h) (fun w l=>xDf z1 c1 w aA i3 ((H.go l).a h8)) fun a F=>xP F rfl (fun w l=>lD F rfl) fun a F=>kZ fun w H=>xG (qV F rfl (fun y=>?_) (fun y=>?_))
   ·
    replace d:=vX y d;refine xV (xA 1 F rfl fun a F=>xJ (xR (vT (oQ (oQ ?_)))));replace d:=kD d E;refine vT (oQ ?_);replace d:=zZ d D;refine oQ (xT F rfl (oE F rfl) ?_);obtain rfl:=oj d;exact⟨rfl,H.bl⟩
   replace d:=vW y d;refine xN (vH (xG (xY (xA 1 F rfl fun a F=>vP F rfl rfl rfl Y fun a F=>xA 1 F rfl fun a F=>xJ ?_))));replace d:=vU d E;exact⟨_,Nat.lt_succ_self _,p+1,n,⟨f.1,f.2.2⟩,rfl,d,F.su,H⟩
 rintro a w ⟨rfl,F,H⟩
 have d:=xW D;refine xG (xF ?_);obtain⟨o2,d,O⟩:=xM d;refine oH (fun a w=>∃ (C:Bool),o2= .nx C∧Sk a 38 [(2,.bool C)]∧Sep [] B j w []) ?_ ?_
 ·
  refine xY (xA 1 F rfl fun a F=>oN F rfl rfl e fun a F=>oF (s':=1) iD F rfl rfl e xH.f0 fun a p6 h9 F=>olI isAgg2 F rfl rfl H.sm h9 (fun a i4 F=>?_));obtain⟨J,c2,d⟩:=xB d;refine oK F rfl call104 rfl H (pP J c2 _ aA i4) fun a w H F=>xA 1 F rfl fun a F=>?_
  rcases vR J with t | t
  ·
   replace d:=vX t d;have F:=F.eb 30 rfl t;refine xA 1 F rfl fun a F=>oN F rfl rfl e fun a F=>oF (s':=1) kG F rfl rfl e xH.f1 fun a p7 P F=>olS isAgg24 F rfl rfl H.sm P fun a v3 Q F=>oL underlying24 F rfl rfl Q fun a i5 F=>xA 3 F rfl fun a F=>xJ ?_;exact⟨(decide ((i.rels.length:Int)≤6)),(zH d),F.su,H⟩
  replace d:=vW t d;have F:=F.eb 30 rfl t;refine xA 8 F rfl fun a F=>xJ ?_;exact⟨false,(zH d),F.su,H⟩
 rintro a w ⟨C,rfl,F,H⟩
 have d:=xW O;refine xG (xR (xT F rfl (oE F rfl) ?_));obtain rfl:=oj d;exact⟨rfl,H.bl⟩
def fW (c:List Int) (d:Int):Option Bool:=
 zR (σ:=Unit) (
  qT (σ:=Unit) (ρ:=Bool) (fun (i:Nat) (e:Int) (s:Unit)=>
    match s with
    | _=>
    xZ (ck (d - 1)) fun f=>
    xZ (bP e 0 f) fun h=>
    if (!h) then
     some (.ret false)
    else
     some (.go ())) c 0 ()) fun _=>
 some true
theorem uK {B:Nat→Prop} {h:List Int} {n:Int} (r:Bool) (d:fW h n=some r) {p:Value} (i:World) (M:∀ c,B c→c<i.heap.size) (x:Bo B i (Sl 1 xI) p h) (U:xS n):Calls Tryz.prog 66 #[p,xC n] i (kL (.bool r) i):=by
 unfold fW at d
 refine xX (L:=[(0,p),(1,xC n)]) func66 rfl rfl rfl (sc rfl (sc rfl sn)) (fun a F=>?_);have H:=Sep.start M;refine xV (xA 1 F rfl fun a F=>xJ (xF (xV (xA 1 F rfl fun a F=>xJ ?_))));obtain⟨D,d,A⟩:=xM d;refine oH (fun a w=>D= .nx ()∧Sk a 20 []∧Sep [] B i w []) ?_ ?_
 ·
  refine oJ ?_;obtain⟨J,K,d⟩:=qP d;refine qK (fun g a w=>∃ (j:Nat) (f:List Int),(j≤h.length∧h.drop j=f)∧f.length=g∧qT J f j ()=some D∧Sk a 20 [(5,xC (j:Int)),(0,p),(1,xC n)]∧Sep [] B i w []) h.length ?_ ?_
  ·
   exact⟨0,h,⟨Nat.zero_le _,rfl⟩,rfl,d,F.su,H⟩
  intro W a w ⟨j,f,e,I,d,F,H⟩
  cases f with
  | nil=>
   replace d:=qO d;have N:=qQ e.1 e.2;have y:=vS N;refine xF (xV (xA 2 F rfl fun a F=>oL underlying41 F rfl rfl x fun a X F=>xA 1 F rfl fun a F=>xJ (zD F rfl y (qJ ?_))));refine qM (qM (zQ (xG ?_)));exact⟨(zH d),F.sub sn,H⟩
  | cons Y f=>
   subst I;replace e:=oZ e.2;have O:=qX e.2.1;obtain⟨V,d,C⟩:=qG d;rw[K] at d;have y:=vE e.1;refine xF (xV (xA 2 F rfl fun a F=>oL underlying41 F rfl rfl x fun a E F=>xA 1 F rfl fun a F=>xJ (zC F rfl y (xN ?_))));refine xG (xF ?_);have Z:=gP (Nat.le_of_lt e.1) E;have P:=zU e.1 E;refine oJ (xV (xA 2 F rfl fun a F=>oI underlying41 sizeOf2 F rfl rfl rfl x O fun a p1 Q F=>olI isAgg2 F rfl rfl H.sm Q fun a R F=>xA 1 F rfl fun a F=>?_));obtain⟨z1,G,d⟩:=xB d;refine gM F rfl rfl rfl G (fun a F=>?_);obtain⟨S,T,d⟩:=xB d;refine oK F rfl call65 rfl H (bU S T _ aA R (show xS (0) by decide) (kV G)) fun a w H F=>xA 1 F rfl fun a F=>xJ (qV F rfl (fun t=>?_) (fun t=>?_))
   ·
    replace d:=vX t d;refine xV (xA 1 F rfl fun a F=>xJ (xR (vT (oQ (oQ ?_)))));replace d:=kD d C;refine vT (oQ ?_);replace d:=zZ d A;refine oQ (xT F rfl (oE F rfl) ?_);obtain rfl:=oj d;exact⟨rfl,H.bl⟩
   replace d:=vW t d;refine xN (vH (xG (xY (xA 1 F rfl fun a F=>vP F rfl rfl rfl P fun a F=>xA 1 F rfl fun a F=>xJ ?_))));replace d:=vU d C;exact⟨_,Nat.lt_succ_self _,j+1,f,⟨e.1,e.2.2⟩,rfl,d,F.su,H⟩
 rintro a w ⟨rfl,F,H⟩
 have d:=xW A;refine xG (xV (xA 1 F rfl fun a F=>xJ (xR (xT F rfl (oE F rfl) ?_))));obtain rfl:=oj d;exact⟨rfl,H.bl⟩
def eI (e:Template) (c:Instance):Option Bool:=
 zR (σ:=Bool) (
  xZ (eO e) fun f=>
  if (!f) then  some (.nx true) else  xZ (bP c.vars 1 10) fun h=>
   if (!h) then  some (.nx true) else  some (.nx (decide (24<(c.cons.length:Int))))) fun i=>
 if i then
  some false
 else
  zR (σ:=Unit) (
   qT (σ:=Unit) (ρ:=Bool) (fun (y:Nat) (d:Con) (s:Unit)=>
     match s with
     | _=>
     zR (σ:=Bool) (
      xZ (ck ((e.rels.length:Int) - 1)) fun j=>
      xZ (bP d.rel 0 j) fun n=>
      if (!n) then  some (.nx true) else  xZ (ix e.rels d.rel) fun p=>
       if ((d.scope.length:Int) != p.arity) then  some (.nx true) else  xZ (fW d.scope c.vars) fun t=>
        some (.nx (!t))) fun x=>
     if x then
      some (.ret false)
     else
      some (.go ())) c.cons 0 ()) fun _=>
  some true
theorem iU {B:Nat→Prop} {Q:Template} {n:Instance} (r:Bool) (d:eI Q n=some r) {x:Value} {y:Value} (i:World) (hN:∀ c,B c→c<i.heap.size) (G:Bo B i (Pt 2 xH) x Q) (e:Bo B i (Pt 2 xK) y n):Calls Tryz.prog 23 #[x,y] i (kL (.bool r) i):=by
 unfold eI at d
 refine xX (L:=[(0,x),(1,y)]) func23 rfl rfl rfl (sc rfl (sc rfl sn)) (fun a F=>?_);have H:=Sep.start hN;refine xV (xA 1 F rfl fun a F=>xJ (xF (xF ?_)));obtain⟨o1,d,Y⟩:=xM d;refine oH (fun a w=>∃ (K:Bool),o1= .nx K∧Sk a 84 [(0,x),(1,y),(25,.bool K)]∧Sep [] B i w []) ?_ ?_
 ·
  refine xY (xA 1 F rfl fun a F=>?_);obtain⟨R,c1,d⟩:=xB d;refine oK F rfl call64 rfl H (sX R c1 _ aA (H.a G)) fun a w H F=>xA 2 F rfl fun a F=>?_
  rcases vR (!R) with A | A
  ·
   replace d:=vX A d;have F:=F.eb 10 rfl A;refine xA 11 F rfl fun a F=>?_;refine xA 4 F rfl fun a F=>xJ ?_;exact⟨true,(zH d),F.su,H⟩
  replace d:=vW A d;have F:=F.eb 10 rfl A;refine xA 1 F rfl fun a F=>oN F rfl rfl e fun a F=>oF (s':=1) eE F rfl rfl e xK.f0 fun a b8 h1 F=>olI isAgg2 F rfl rfl H.sm h1 (fun a i1 F=>?_);obtain⟨S,c2,d⟩:=xB d;refine oK F rfl call65 rfl H (bU S c2 _ aA i1 (show xS (1) by decide) (show xS (10) by decide)) fun a w H F=>xA 3 F rfl fun a F=>?_
  rcases vR (!S) with C | C
  ·
   replace d:=vX C d;have F:=F.eb 18 rfl C;refine xA 7 F rfl fun a F=>xJ ?_;exact⟨true,(zH d),F.su,H⟩
  replace d:=vW C d;have F:=F.eb 18 rfl C;refine xA 1 F rfl fun a F=>oN F rfl rfl e fun a F=>oF (s':=1) zT F rfl rfl e xK.f1 fun a p1 h2 F=>olS isAgg27 F rfl rfl H.sm h2 fun a v2 h3 F=>oL underlying27 F rfl rfl h3 fun a i2 F=>xA 2 F rfl fun a F=>xJ ?_;exact⟨(decide (24<(n.cons.length:Int))),(zH d),F.su,H⟩
 rintro a w ⟨K,rfl,F,H⟩
 have d:=xW Y;refine xG (qV F rfl (fun I=>?_) (fun I=>?_))
 ·
  replace d:=vX I d;refine xV (xA 1 F rfl fun a F=>xJ (xR (oQ (xT F rfl (oE F rfl) ?_))));obtain rfl:=oj d;exact⟨rfl,H.bl⟩
 replace d:=vW I d;refine xN (xG (xF (xV (xA 1 F rfl fun a F=>xJ ?_))));obtain⟨T,d,O⟩:=xM d;refine oH (fun a w=>T= .nx ()∧Sk a 84 []∧Sep [] B i w []) ?_ ?_
 ·
  refine oJ ?_;obtain⟨Z,a0,d⟩:=qP d;refine qK (fun g a w=>∃ (p:Nat) (t:List Con),(p≤n.cons.length∧n.cons.drop p=t)∧t.length=g∧qT Z t p ()=some T∧Sk a 84 [(5,xC (p:Int)),(0,x),(1,y)]∧Sep [] B i w []) n.cons.length ?_ ?_
  ·
   exact⟨0,n.cons,⟨Nat.zero_le _,rfl⟩,rfl,d,F.su,H⟩
  intro g1 a w ⟨p,t,f,a1,d,F,H⟩
  cases t with
  | nil=>
   replace d:=qO d;have q1:=qQ f.1 f.2;have M:=vS q1;refine xF (xV (xA 2 F rfl fun a F=>oN F rfl rfl e fun a F=>oF (s':=1) zT F rfl rfl e xK.f1 fun a p2 h4 F=>olS isAgg27 F rfl rfl H.sm h4 fun a v3 h5 F=>oL underlying27 F rfl rfl h5 fun a i3 F=>xA 1 F rfl fun a F=>qU ?_));refine xG (zD F rfl M (qJ (qM (qM (zQ (xG ?_))))));exact⟨(zH d),F.sub sn,H⟩
  | cons x2 t=>
   subst a1;replace f:=oZ f.2;have y1:=qX f.2.1;obtain⟨b9,d,P⟩:=qG d;rw[a0] at d;have M:=vE f.1;refine xF (xV (xA 2 F rfl fun a F=>oN F rfl rfl e fun a F=>oF (s':=1) zT F rfl rfl e xK.f1 fun a p3 h6 F=>olS isAgg27 F rfl rfl H.sm h6 fun a v4 h7 F=>oL underlying27 F rfl rfl h7 fun a U F=>xA 1 F rfl fun a F=>qU ?_));refine xG (zC F rfl M (xN (xG (xF ?_))));have j1:=gP (Nat.le_of_lt f.1) U;have m1:=zU f.1 U;refine oJ (xV (xA 1 F rfl fun a F=>oN F rfl rfl e fun a F=>oF (s':=1) zT F rfl rfl e xK.f1 fun a p4 h8 F=>olS isAgg27 F rfl rfl H.sm h8 fun a v5 h9 F=>xA 1 F rfl fun a F=>oI underlying27 sizeOf69 F rfl rfl rfl h9 y1 fun a p5 j F=>xA 1 F rfl fun a F=>qU ?_));refine xG (xF ?_);obtain⟨o3,d,a2⟩:=xM d;refine oH (fun a w=>∃ (N:Bool),o3= .nx N∧Sk a 84 [(0,x),(1,y),(5,xC (p:Int)),(83,.bool N)]∧Sep [] B i w []) ?_ ?_
   ·
    refine xQ H (by kernel_rfl) (by kernel_rfl) (xP F rfl (fun w l=>xL F rfl) fun a F=>qN F rfl rfl j fun a F=>qF (s':=1) lX F rfl rfl j oR.f0 fun a p6 a3 F=>qlI isAgg2 F rfl rfl H.q a3 fun a i5 F=>xP F rfl (fun w l=>xL F rfl) fun a F=>qN F rfl rfl G fun a F=>qF (s':=1) kG F rfl rfl G xH.f1 fun a p7 a4 F=>qlS isAgg24 F rfl rfl H.q a4 fun a v6 a5 F=>qL underlying24 F rfl rfl a5 (fun a i6 F=>?_));obtain⟨z3,V,d⟩:=xB d;refine xP F rfl (fun w l=>rC F rfl rfl V) (fun a F=>?_);obtain⟨W,c4,d⟩:=xB d;refine fX F rfl call65 rfl (fun w w' h l=>l.through h) (fun w l=>bU W c4 w aA i5 (show xS (0) by decide) (kV V)) fun a F=>xP F rfl (fun w l=>lD F rfl) fun a F=>xP F rfl (fun w l=>xL F rfl) (fun a F=>?_)
    rcases vR (!W) with D | D
    ·
     replace d:=vX D d;have F:=F.eb 53 rfl D;refine qR F rfl rfl fun a F=>qR F rfl rfl fun a F=>qR F rfl rfl fun a F=>qR F rfl rfl fun a F=>qR F rfl rfl fun a F=>qR F rfl rfl fun a F=>qR F rfl rfl fun a F=>qR F rfl rfl fun a F=>qR F rfl rfl fun a F=>qR F rfl rfl fun a F=>qR F rfl rfl (fun a F=>?_);refine qR F rfl rfl fun a F=>qR F rfl rfl fun a F=>qR F rfl rfl fun a F=>qR F rfl rfl fun a F=>qR F rfl rfl fun a F=>qR F rfl rfl fun a F=>xP F rfl (fun w l=>cD F rfl rfl) fun a F=>xP F rfl (fun w l=>xL F rfl) fun a F=>qR F rfl rfl fun a F=>qR F rfl rfl fun a F=>qR F rfl rfl (fun a F=>?_);refine qR F rfl rfl fun a F=>qR F rfl rfl fun a F=>qR F rfl rfl fun a F=>qR F rfl rfl fun a F=>qR F rfl rfl fun a F=>qR F rfl rfl fun a F=>qR F rfl rfl fun a F=>xP F rfl (fun w l=>cD F rfl rfl) fun a F=>kZ fun w H=>xG ?_;exact⟨true,(zH d),F.su,H⟩
    replace d:=vW D d;have F:=F.eb 53 rfl D;refine xP F rfl (fun w l=>xL F rfl) fun a F=>qN F rfl rfl j fun a F=>qF (s':=1) bM F rfl rfl j oR.f1 fun a p8 a6 F=>qlS isAgg41 F rfl rfl H.q a6 fun a v7 a7 F=>qL underlying41 F rfl rfl a7 fun a i7 F=>xP F rfl (fun w l=>xL F rfl) fun a F=>qN F rfl rfl G fun a F=>qF (s':=1) kG F rfl rfl G xH.f1 fun a p9 a8 F=>qlS isAgg24 F rfl rfl H.q a8 fun a v8 a9 F=>xP F rfl (fun w l=>xL F rfl) fun a F=>qN F rfl rfl j (fun a F=>?_);refine qF (s':=1) lX F rfl rfl j oR.f0 fun a ba aa F=>qlI isAgg2 F rfl rfl H.q aa (fun a i8 F=>?_);obtain⟨z5,c5,d⟩:=xB d;refine qI underlying24 sizeOf66 F rfl rfl rfl a9 c5 fun a bb ab F=>qF (s':=1) mU F rfl rfl ab oV.f0 fun a bc ac F=>qlI isAgg2 F rfl rfl H.q ac fun a i9 F=>xP F rfl (fun w l=>sC F rfl rfl) fun a F=>xP F rfl (fun w l=>cG F rfl rfl) fun a F=>xP F rfl (fun w l=>xL F rfl) (fun a F=>?_)
    rcases vR ((x2.scope.length:Int) != z5.arity) with E | E
    ·
     replace d:=vX E d;have F:=F.eb 72 rfl E;refine qR F rfl rfl fun a F=>qR F rfl rfl fun a F=>qR F rfl rfl fun a F=>qR F rfl rfl fun a F=>qR F rfl rfl fun a F=>qR F rfl rfl fun a F=>qR F rfl rfl fun a F=>qR F rfl rfl fun a F=>qR F rfl rfl fun a F=>qR F rfl rfl fun a F=>xP F rfl (fun w l=>cD F rfl rfl) (fun a F=>?_);refine kZ fun w H=>xG ?_;exact⟨true,(zH d),F.su,H⟩
    replace d:=vW E d;have F:=F.eb 72 rfl E;refine xP F rfl (fun w l=>xL F rfl) fun a F=>qN F rfl rfl j fun a F=>qF (s':=1) bM F rfl rfl j oR.f1 fun a bd ad F=>qlS isAgg41 F rfl rfl H.q ad fun a v9 ae F=>xP F rfl (fun w l=>xL F rfl) fun a F=>qN F rfl rfl e fun a F=>qF (s':=1) eE F rfl rfl e xK.f0 fun a be af F=>qlI isAgg2 F rfl rfl H.q af (fun a ag F=>?_);obtain⟨X,c6,d⟩:=xB d;refine fX F rfl call66 rfl (fun w w' h l=>l.through h) (fun w l=>uK X c6 w aA ((H.go l).a ae) ag) fun a F=>xP F rfl (fun w l=>lD F rfl) fun a F=>xP F rfl (fun w l=>cG F rfl rfl) fun a F=>kZ fun w H=>xG ?_;exact⟨(!X),(zH d),F.su,H⟩
   rintro a w ⟨N,rfl,F,H⟩
   have d:=xW a2;refine xG (qV F rfl (fun J=>?_) (fun J=>?_))
   ·
    replace d:=vX J d;refine xV (xA 1 F rfl fun a F=>xJ (xR (vT (oQ (oQ ?_)))));replace d:=kD d P;refine vT (oQ ?_);replace d:=zZ d O;refine oQ (xT F rfl (oE F rfl) ?_);obtain rfl:=oj d;exact⟨rfl,H.bl⟩
   replace d:=vW J d;refine xN (vH (xG (xY (xA 1 F rfl fun a F=>vP F rfl rfl rfl m1 fun a F=>xA 1 F rfl fun a F=>xJ ?_))));replace d:=vU d P;exact⟨_,Nat.lt_succ_self _,p+1,t,⟨f.1,f.2.2⟩,rfl,d,F.su,H⟩
 rintro a w ⟨rfl,F,H⟩
 have d:=xW O;refine xG (xV (xA 1 F rfl fun a F=>xJ (xR (xT F rfl (oE F rfl) ?_))));obtain rfl:=oj d;exact⟨rfl,H.bl⟩
def jI (d:Int):Option Rel:=
 zR (σ:=(List (List Int))) (
  aS (σ:=(List (List Int))) (ρ:=Rel) (fun(c:Nat) (e:(List (List Int)))=>
   xZ (ap e ([[(c:Int),(c:Int)]])) fun f=>
   some (.go f)) d.toNat 0 []) fun h=>
 some ((Rel.mk 2 h))
theorem wC {B:Nat→Prop} {f:Int} (r:Rel) (d:jI f=some r)  (i:World) (P:∀ c,B c→c<i.heap.size) (D:xS f):Calls Tryz.prog 24 #[xC f] i (Gv (fun v w'=>∃ (E:Value),v= .agg #[xC r.arity,E]∧Sep [] B i w' [rl 1 (vQ 1 xI) 41 E r.tuples]∧xS r.arity)):=by
 unfold jI at d
 refine xX (L:=[(0,xC f)]) func24 rfl rfl rfl (sc rfl sn) (fun a F=>?_);have H:=Sep.start P;refine xV (oA zeroValue66 F rfl rfl H fun a w n H F=>vG (vY underlying66 zeroValue66 (fun w=>by simp [sizeOf2,sizeOf38];rfl) F rfl rfl rfl rfl rfl (oc rfl on) rfl rfl fun a F=>oA zeroValue66 F rfl rfl H fun a w p H F=>cN (vs:=[xC 2,qD]) sizeOf66 F rfl rfl rfl H (oc rfl (oc rfl on)) rfl rfl fun w H=>qU ?_));refine xG (xF (xV (xA 1 F rfl fun a F=>xJ ?_)));obtain⟨G,d,K⟩:=xM d;refine oH (fun a w=>∃ (A:List (List Int)) (h:Value),G= .nx A∧Sk a 20 [(2,oO n),(3,oO p)]∧Sep [] B i w [rl 1 (vQ 1 xI) 41 h A,bx p [xC 2,h] 66,bx n [xC 0,qD] 66]) ?_ ?_
 ·
  refine oJ ?_;obtain⟨M,N,d⟩:=dP d;refine qK (fun g a w=>∃ (e:Nat) (t:List (List Int)) (x:Value),e+g=f.toNat∧aS M g e t=some G∧Sk a 20 [(4,xC (e:Int)),(0,xC f),(2,oO n),(3,oO p)]∧Sep [] B i w [rl 1 (vQ 1 xI) 41 x t,bx p [xC 2,x] 66,bx n [xC 0,qD] 66]) f.toNat ?_ ?_
  ·
   exact⟨0,[],qD,(Nat.zero_add _),d,F.su,(H.nl 1 (vQ 1 xI) 41)⟩
  intro I a w ⟨e,t,x,j,d,F,H⟩
  cases I with
  | zero=>
   replace d:=cC d;have C:=gH j;refine xF (xV (xA 3 F rfl fun a F=>xJ (zD F rfl C (qJ (qM ?_)))));refine qM (zQ (xG ?_));exact⟨t,x,(zH d),F.su,H⟩
  | succ I=>
   obtain⟨V,d,O⟩:=cI d;rw[N] at d;have C:=eR j;refine xF (xV (xA 3 F rfl fun a F=>xJ (zC F rfl C (xN (xG ?_)))));refine xF ?_;have J:=uA j D;have Q:=jB j D;refine oJ (xY (oD bG F rfl rfl rfl fun a F=>oB isAgg38 F rfl rfl (H.b 1 rfl) rfl fun a F=>xA 2 F rfl fun a F=>oRI (xs:=[.tmp 13,.tmp 14]) (l:=[(e:Int),(e:Int)]) underlying41 sizeOf2 zeroValue2 rfl F rfl rfl rfl rfl rfl rfl (by simp only[List.forall_mem_cons,List.not_mem_nil,false_implies,implies_true,and_true];exact⟨J,J⟩) H (fun a w W H F=>?_)));have H:=H.os;refine eZ (R:=(vQ 1 xI)) (y:=[(e:Int),(e:Int)]) underlying38 sizeOf41 zeroValue41 rfl rfl F rfl rfl H El.sl (fun a w X H F=>?_);obtain⟨S,T,d⟩:=xB d;refine oPL (sz:=1) (R:=(vQ 1 xI)) (z:=(qD)) (bytes:=24) underlying38 (by kernel_rfl) rfl rfl F rfl rfl rfl (H.s [1,0,2,3] rfl rfl) T fun a w U H F=>oD bG F rfl rfl rfl fun a F=>oW sizeOf38 F rfl rfl rfl (H.s [1,0,2] rfl rfl) ((H.s [1,0,2] rfl rfl).l 1 rfl).one rfl rfl fun w H=>qU (vH (xG (xY (xA 1 F rfl fun a F=>vP F rfl rfl rfl Q fun a F=>xA 1 F rfl fun a F=>qU ?_))));refine xG ?_;replace d:=vU d O;exact⟨_,Nat.lt_succ_self _,e+1,S,U,(by omega),d,F.su,(H.s [1,0,2] rfl rfl)⟩
 rintro a w ⟨A,h,rfl,F,H⟩
 have d:=xW K;refine xG (xV (dJ isAgg66 sizeOf66 F rfl rfl (H.b 1 rfl) rfl rfl fun a F=>cN (vs:=[xC 2,h]) sizeOf66 F rfl rfl rfl (H.s [2,0,1] rfl rfl) (oc rfl (oc ((H.s [2,0,1] rfl rfl).l 1 rfl).one on)) rfl rfl fun w H=>xJ (xR (xT F rfl (kF (arr:=#[xC 2,h]) F isAgg66 sizeOf66 rfl (H.b 0 rfl)) ?_))));obtain rfl:=oj d;exact⟨_,rfl,h,rfl,(H.s [1] rfl rfl),(show xS (2) by decide)⟩
def cV (c:List Int):Option (List Int):=
 xZ (ap ([]) c) fun d=>
 some d
theorem eD {B:Nat→Prop} {i:List Int} (r:(List Int)) (d:cV i=some r) {f:Value} (e:World) (j:∀ c,B c→c<e.heap.size) (n:Bo B e (Sl 1 xI) f i):Calls Tryz.prog 59 #[f] e (Gv (fun v w'=>∃ (h:Value),v=h∧Sep [] B e w' [rl 1 xI 2 h r])):=by
 unfold cV at d
 refine xX (L:=[(0,f)]) func59 rfl rfl rfl (sc rfl sn) (fun a F=>?_);have H:=Sep.start j;refine xV (xA 1 F rfl fun a F=>vG (oR0 (R:=xI) underlying41 sizeOf2 F rfl H fun a w x H F=>xA 1 F rfl fun a F=>?_));obtain⟨y,p,d⟩:=xB d;refine oPf (sz:=1) (R:=xI) (z:=(xC 0)) (bytes:=8) underlying41 (by kernel_rfl) rfl rfl F rfl rfl rfl H.lw (H.lw.a n) p (fun a w t H F=>?_);have H:=H.tl;refine xA 1 F rfl fun a F=>xJ (xR (xT F rfl (oE F rfl) ?_));obtain rfl:=oj d;exact⟨_,rfl,t,rfl,H⟩
def jT (c d:Int):Option Int:=
 if (decide (d<c)) then
  some c
 else
  some d
theorem xAs {B:Nat→Prop} {e f:Int} (r:Int) (d:jT e f=some r)  (i:World) (p:∀ c,B c→c<i.heap.size) (j:xS e) (n:xS f):Calls Tryz.prog 122 #[xC e,xC f] i (fS r i):=by
 unfold jT at d
 refine xX (L:=[(0,xC e),(1,xC f)]) func122 rfl rfl rfl (sc rfl (sc rfl sn)) (fun a F=>?_);have H:=Sep.start p;refine xV (xA 1 F rfl fun a F=>xJ (xF (xV (xA 3 F rfl fun a F=>?_))));refine xJ (qV F rfl (fun h=>?_) (fun h=>?_))
 ·
  replace d:=vX h d;refine xV (xA 2 F rfl fun a F=>xJ (xR (oQ (xT F rfl (oE F rfl) ?_))));obtain rfl:=oj d;exact⟨⟨rfl,H.bl⟩,j⟩
 replace d:=vW h d;refine xN (xG (xV (xA 2 F rfl fun a F=>xJ (xR (xT F rfl (oE F rfl) ?_)))));obtain rfl:=oj d;exact⟨⟨rfl,H.bl⟩,n⟩
def mB (c d:List Int):Option (List Int):=
 zR (σ:=(List Int)) (
  qT (σ:=(List Int)) (ρ:=(List Int)) (fun (n:Nat) (e:Int) (f:(List Int))=>
   xZ (ix c e) fun h=>
   xZ (ap f ([h])) fun i=>
   some (.go i)) d 0 []) fun j=>
 some j
theorem xBy {B:Nat→Prop} {J i:List Int} (r:(List Int)) (d:mB J i=some r) {n:Value} {p:Value} (f:World) (S:∀ c,B c→c<f.heap.size) (T:Bo B f (Sl 1 xI) n J) (C:Bo B f (Sl 1 xI) p i):Calls Tryz.prog 147 #[n,p] f (Gv (fun v w'=>∃ (G:Value),v=G∧Sep [] B f w' [rl 1 xI 2 G r])):=by
 unfold mB at d
 refine xX (L:=[(0,n),(1,p)]) func147 rfl rfl rfl (sc rfl (sc rfl sn)) (fun a F=>?_);have H:=Sep.start S;refine xV (xA 1 F rfl fun a F=>vG (oR0 (R:=xI) underlying41 sizeOf2 F rfl H fun a w U H F=>xA 1 F rfl fun a F=>xJ ?_));refine xF (xV (xA 1 F rfl fun a F=>xJ ?_));obtain⟨I,d,M⟩:=xM d;refine oH (fun a w=>∃ (D:List Int) (t:Value),I= .nx D∧Sk a 25 [(5,t)]∧Sep [] B f w [rl 1 xI 2 t D]) ?_ ?_
 ·
  refine oJ ?_;obtain⟨N,O,d⟩:=qP d;refine qK (fun g a w=>∃ (j:Nat) (h x:List Int) (A:Value),(j≤i.length∧i.drop j=h)∧h.length=g∧qT N h j x=some I∧Sk a 25 [(6,xC (j:Int)),(0,n),(1,p),(5,A)]∧Sep [] B f w [rl 1 xI 2 A x]) i.length ?_ ?_
  ·
   exact⟨0,i,[],U,⟨Nat.zero_le _,rfl⟩,rfl,d,F.su,H⟩
  intro g1 a w ⟨j,h,x,A,e,P,d,F,H⟩
  cases h with
  | nil=>
   replace d:=qO d;have V:=qQ e.1 e.2;have E:=vS V;refine xF (xV (xA 2 F rfl fun a F=>oL underlying41 F rfl rfl C fun a i1 F=>xA 1 F rfl fun a F=>xJ (zD F rfl E (qJ ?_))));refine qM (qM (zQ (xG ?_)));exact⟨x,A,(zH d),F.su,H⟩
  | cons x2 h=>
   subst P;replace e:=oZ e.2;have W:=qX e.2.1;obtain⟨a6,d,Q⟩:=qG d;rw[O] at d;have E:=vE e.1;refine xF (xV (xA 2 F rfl fun a F=>oL underlying41 F rfl rfl C fun a K F=>xA 1 F rfl fun a F=>xJ (zC F rfl E (xN ?_))));refine xG (xF ?_);have j1:=gP (Nat.le_of_lt e.1) K;have X:=zU e.1 K;refine oJ (xY (xA 4 F rfl fun a F=>oI underlying41 sizeOf2 F rfl rfl rfl C W fun a p1 Y F=>olI isAgg2 F rfl rfl H.sm Y (fun a i3 F=>?_)));obtain⟨Z,c1,d⟩:=xB d;refine oI underlying41 sizeOf2 F rfl rfl rfl T c1 fun a p2 h2 F=>olI isAgg2 F rfl rfl H.sm h2 fun a i4 F=>cM (R:=xI) (y:=Z) underlying41 sizeOf2 zeroValue2 rfl rfl F rfl rfl H (Eo.int i4) (fun a w v5 H F=>?_);obtain⟨z2,c2,d⟩:=xB d;refine oPL (sz:=1) (R:=xI) (z:=(xC 0)) (bytes:=8) underlying41 (by kernel_rfl) rfl rfl F rfl rfl rfl (H.s [1,0] rfl rfl) c2 fun a w v6 H F=>xA 1 F rfl fun a F=>qU (vH (xG (xY (xA 1 F rfl fun a F=>vP F rfl rfl rfl X fun a F=>xA 1 F rfl fun a F=>xJ ?_))));replace d:=vU d Q;exact⟨_,Nat.lt_succ_self _,j+1,h,z2,v6,⟨e.1,e.2.2⟩,rfl,d,F.su,H⟩
 rintro a w ⟨D,t,rfl,F,H⟩
 have d:=xW M;refine xG (xV (xA 2 F rfl fun a F=>xJ (xR (xT F rfl (oE F rfl) ?_))));obtain rfl:=oj d;exact⟨_,rfl,t,rfl,H⟩
def fG (c d:List Int):Option Bool:=
 if ((c.length:Int) != (d.length:Int)) then
  some false
 else
  zR (σ:=Unit) (
   qT (σ:=Unit) (ρ:=Bool) (fun (e:Nat) (f:Int) (s:Unit)=>
     match s with
     | _=>
     xZ (ix d (e:Int)) fun h=>
     if (f != h) then
      some (.ret false)
     else
      some (.go ())) c 0 ()) fun _=>
  some true
theorem pM {B:Nat→Prop} {i E:List Int} (r:Bool) (d:fG i E=some r) {n:Value} {p:Value} (h:World) (O:∀ c,B c→c<h.heap.size) (t:Bo B h (Sl 1 xI) n i) (G:Bo B h (Sl 1 xI) p E):Calls Tryz.prog 57 #[n,p] h (kL (.bool r) h):=by
 unfold fG at d
 refine xX (L:=[(0,n),(1,p)]) func57 rfl rfl rfl (sc rfl (sc rfl sn)) (fun a F=>?_);have H:=Sep.start O;refine xV (xA 1 F rfl fun a F=>xJ (xF (xV (xA 1 F rfl fun a F=>oL underlying41 F rfl rfl t fun a W F=>xA 1 F rfl fun a F=>?_))));refine oL underlying41 F rfl rfl G fun a X F=>xA 1 F rfl fun a F=>xJ (qV F rfl (fun x=>?_) (fun x=>?_))
 ·
  replace d:=vX x d;refine xV (xA 1 F rfl fun a F=>xJ (xR (oQ (xT F rfl (oE F rfl) ?_))));obtain rfl:=oj d;exact⟨rfl,H.bl⟩
 replace d:=vW x d;refine xN (xG (xF (xV (xA 1 F rfl fun a F=>xJ ?_))));obtain⟨I,d,C⟩:=xM d;refine oH (fun a w=>I= .nx ()∧Sk a 26 []∧Sep [] B h w []) ?_ ?_
 ·
  refine oJ ?_;obtain⟨K,M,d⟩:=qP d;refine qK (fun g a w=>∃ (j:Nat) (f:List Int),(j≤i.length∧i.drop j=f)∧f.length=g∧qT K f j ()=some I∧Sk a 26 [(5,xC (j:Int)),(0,n),(1,p)]∧Sep [] B h w []) i.length ?_ ?_
  ·
   exact⟨0,i,⟨Nat.zero_le _,rfl⟩,rfl,d,F.su,H⟩
  intro Y a w ⟨j,f,e,N,d,F,H⟩
  cases f with
  | nil=>
   replace d:=qO d;have P:=qQ e.1 e.2;have A:=vS P;refine xF (xV (xA 2 F rfl fun a F=>oL underlying41 F rfl rfl t fun a Z F=>xA 1 F rfl fun a F=>xJ (zD F rfl A (qJ ?_))));refine qM (qM (zQ (xG ?_)));exact⟨(zH d),F.sub sn,H⟩
  | cons x2 f=>
   subst N;replace e:=oZ e.2;have Q:=qX e.2.1;obtain⟨V,d,D⟩:=qG d;rw[M] at d;have A:=vE e.1;refine xF (xV (xA 2 F rfl fun a F=>oL underlying41 F rfl rfl t fun a J F=>xA 1 F rfl fun a F=>xJ (zC F rfl A (xN ?_))));refine xG (xF ?_);have j1:=gP (Nat.le_of_lt e.1) J;have R:=zU e.1 J;refine oJ (xF (xQ H (by kernel_rfl) (by kernel_rfl) (xP F rfl (fun w l=>xL F rfl) fun a F=>xP F rfl (fun w l=>xL F rfl) fun a F=>qI underlying41 sizeOf2 F rfl rfl rfl t Q fun a p1 S F=>qlI isAgg2 F rfl rfl H.q S fun a i5 F=>xP F rfl (fun w l=>xL F rfl) fun a F=>xP F rfl (fun w l=>xL F rfl) (fun a F=>?_))));obtain⟨z1,T,d⟩:=xB d;refine qI underlying41 sizeOf2 F rfl rfl rfl G T fun a p2 U F=>qlI isAgg2 F rfl rfl H.q U fun a i6 F=>xP F rfl (fun w l=>sC F rfl rfl) fun a F=>kZ fun w H=>xG (qV F rfl (fun y=>?_) (fun y=>?_))
   ·
    replace d:=vX y d;refine xV (xA 1 F rfl fun a F=>xJ (xR (vT (oQ (oQ ?_)))));replace d:=kD d D;refine vT (oQ ?_);replace d:=zZ d C;refine oQ (xT F rfl (oE F rfl) ?_);obtain rfl:=oj d;exact⟨rfl,H.bl⟩
   replace d:=vW y d;refine xN (vH (xG (xY (xA 1 F rfl fun a F=>vP F rfl rfl rfl R fun a F=>xA 1 F rfl fun a F=>xJ ?_))));replace d:=vU d D;exact⟨_,Nat.lt_succ_self _,j+1,f,⟨e.1,e.2.2⟩,rfl,d,F.su,H⟩
 rintro a w ⟨rfl,F,H⟩
 have d:=xW C;refine xG (xV (xA 1 F rfl fun a F=>xJ (xR (xT F rfl (oE F rfl) ?_))));obtain rfl:=oj d;exact⟨rfl,H.bl⟩
def jK (c:Rel) (d:List Int):Option Bool:=
 zR (σ:=Unit) (
  qT (σ:=Unit) (ρ:=Bool) (fun (h:Nat) (e:(List Int)) (s:Unit)=>
    match s with
    | _=>
    xZ (fG e d) fun f=>
    if f then
     some (.ret true)
    else
     some (.go ())) c.tuples 0 ()) fun _=>
 some false
theorem xAr {B:Nat→Prop} {i:Rel} {E:List Int} (r:Bool) (d:jK i E=some r) {p:Value} {t:Value} (f:World) (M:∀ c,B c→c<f.heap.size) (j:Bo B f (Pt 2 oV) p i) (N:Bo B f (Sl 1 xI) t E):Calls Tryz.prog 146 #[p,t] f (kL (.bool r) f):=by
 unfold jK at d
 refine xX (L:=[(0,p),(1,t)]) func146 rfl rfl rfl (sc rfl (sc rfl sn)) (fun a F=>?_);have H:=Sep.start M;refine xV (xA 1 F rfl fun a F=>xJ (xF (xV (xA 1 F rfl fun a F=>xJ ?_))));obtain⟨A,d,C⟩:=xM d;refine oH (fun a w=>A= .nx ()∧Sk a 24 []∧Sep [] B f w []) ?_ ?_
 ·
  refine oJ ?_;obtain⟨I,J,d⟩:=qP d;refine qK (fun g a w=>∃ (n:Nat) (h:List (List Int)),(n≤i.tuples.length∧i.tuples.drop n=h)∧h.length=g∧qT I h n ()=some A∧Sk a 24 [(5,xC (n:Int)),(0,p),(1,t)]∧Sep [] B f w []) i.tuples.length ?_ ?_
  ·
   exact⟨0,i.tuples,⟨Nat.zero_le _,rfl⟩,rfl,d,F.su,H⟩
  intro g1 a w ⟨n,h,e,K,d,F,H⟩
  cases h with
  | nil=>
   replace d:=qO d;have O:=qQ e.1 e.2;have y:=vS O;refine xF (xV (xA 2 F rfl fun a F=>oN F rfl rfl j fun a F=>oF (s':=1) bG F rfl rfl j oV.f1 fun a p1 P F=>olS isAgg38 F rfl rfl H.sm P fun a v2 Q F=>oL underlying38 F rfl rfl Q fun a i64 F=>xA 1 F rfl fun a F=>qU ?_));refine xG (zD F rfl y (qJ (qM (qM (zQ (xG ?_))))));exact⟨(zH d),F.sub sn,H⟩
  | cons x2 h=>
   subst K;replace e:=oZ e.2;have R:=qX e.2.1;obtain⟨a1,d,D⟩:=qG d;rw[J] at d;have y:=vE e.1;refine xF (xV (xA 2 F rfl fun a F=>oN F rfl rfl j fun a F=>oF (s':=1) bG F rfl rfl j oV.f1 fun a p2 S F=>olS isAgg38 F rfl rfl H.sm S fun a v3 T F=>oL underlying38 F rfl rfl T fun a G F=>xA 1 F rfl fun a F=>qU ?_));refine xG (zC F rfl y (xN (xG (xF ?_))));have j1:=gP (Nat.le_of_lt e.1) G;have U:=zU e.1 G;refine oJ (xV (xA 1 F rfl fun a F=>oN F rfl rfl j fun a F=>oF (s':=1) bG F rfl rfl j oV.f1 fun a p3 V F=>olS isAgg38 F rfl rfl H.sm V fun a v4 W F=>xA 1 F rfl fun a F=>oI underlying38 sizeOf41 F rfl rfl rfl W R fun a p4 X F=>olS isAgg41 F rfl rfl H.sm X fun a v5 Y F=>xA 1 F rfl fun a F=>?_));obtain⟨Z,c1,d⟩:=xB d;refine oK F rfl call57 rfl H (pM Z c1 _ aA (H.a Y) (H.a N)) fun a w H F=>xJ (qV F rfl (fun x=>?_) (fun x=>?_))
   ·
    replace d:=vX x d;refine xV (xA 1 F rfl fun a F=>xJ (xR (vT (oQ (oQ ?_)))));replace d:=kD d D;refine vT (oQ ?_);replace d:=zZ d C;refine oQ (xT F rfl (oE F rfl) ?_);obtain rfl:=oj d;exact⟨rfl,H.bl⟩
   replace d:=vW x d;refine xN (vH (xG (xY (xA 1 F rfl fun a F=>vP F rfl rfl rfl U fun a F=>xA 1 F rfl fun a F=>xJ ?_))));replace d:=vU d D;exact⟨_,Nat.lt_succ_self _,n+1,h,⟨e.1,e.2.2⟩,rfl,d,F.su,H⟩
 rintro a w ⟨rfl,F,H⟩
 have d:=xW C;refine xG (xV (xA 1 F rfl fun a F=>xJ (xR (xT F rfl (oE F rfl) ?_))));obtain rfl:=oj d;exact⟨rfl,H.bl⟩
def gS (d:Template) (c:Con) (e:List Int):Option Bool:=
 xZ (ix d.rels c.rel) fun f=>
 xZ (mB e c.scope) fun h=>
 xZ (jK f h) fun i=>
 some i
theorem wD {B:Nat→Prop} {n:Template} {p:Con} {t:List Int} (r:Bool) (d:gS n p t=some r) {h:Value} {i:Value} {j:Value} (e:World) (A:∀ c,B c→c<e.heap.size) (x:Bo B e (Pt 2 xH) h n) (f:Bo B e (Pt 2 oR) i p) (C:Bo B e (Sl 1 xI) j t):Calls Tryz.prog 123 #[h,i,j] e (kL (.bool r) e):=by
 unfold gS at d
 refine xX (L:=[(0,h),(1,i),(2,j)]) func123 rfl rfl rfl (sc rfl (sc rfl (sc rfl sn))) (fun a F=>?_);have H:=Sep.start A;refine xV (xA 1 F rfl fun a F=>xJ (xF ?_));obtain⟨T,D,d⟩:=xB d;obtain⟨E,G,d⟩:=xB d;obtain⟨I,y,d⟩:=xB d;refine xD H (by kernel_rfl) fun w H=>qW 0 rfl (by kernel_rfl) (xO F rfl (fun w l=>xL F rfl) fun a F=>qE 1 rfl (by kernel_rfl) (vN F rfl rfl x fun a F=>qE 2 rfl (by kernel_rfl) (vF (s':=1) kG F rfl rfl x xH.f1 fun a U J F=>qE 3 rfl (by kernel_rfl) (vlS isAgg24 F rfl rfl H.v J fun a V K F=>qW 4 rfl (by kernel_rfl) (xO F rfl (fun w l=>xL F rfl) (fun a F=>?_))))));refine qE 5 rfl (by kernel_rfl) (vN F rfl rfl f fun a F=>qE 6 rfl (by kernel_rfl) (vF (s':=1) lX F rfl rfl f oR.f0 fun a W M F=>qE 7 rfl (by kernel_rfl) (vlI isAgg2 F rfl rfl H.v M fun a X F=>qE 8 rfl (by kernel_rfl) (vI underlying24 sizeOf66 F rfl rfl rfl K D fun a Y N F=>qW 9 rfl (by kernel_rfl) (xO F rfl (fun w l=>xL F rfl) fun a F=>qW 10 rfl (by kernel_rfl) ?_)))));refine xO F rfl (fun w l=>xL F rfl) fun a F=>qE 11 rfl (by kernel_rfl) (vN F rfl rfl f fun a F=>qE 12 rfl (by kernel_rfl) (vF (s':=1) bM F rfl rfl f oR.f1 fun a Z O F=>qE 13 rfl (by kernel_rfl) (vlS isAgg41 F rfl rfl H.v O fun a v4 P F=>xE H 14 rfl (by kernel_rfl) (oG F rfl call147 rfl (xBy E G _ aA (H.a C) (H.a P)) (fun a Q w ⟨v5,R,S⟩ F=>?_)))));subst Q;have H:=H.r1 S n0;refine xJ ⟨⟨_,H⟩,?_⟩;refine xE H 15 rfl (by kernel_rfl) (oK F rfl call146 rfl H (xAr I y _ aA (H.a N) (H.l 0 rfl)) fun a w H F=>xJ ⟨⟨_,H⟩,?_⟩);refine qW 16 rfl (by kernel_rfl) (xO F rfl (fun w l=>vK F rfl) fun a F=>vZ (by kernel_rfl) (xG (xR (xT F rfl (oE F rfl) ?_))));obtain rfl:=oj d;exact⟨rfl,H.bl⟩
def cH (c:l05Find) (d:List Int):Option Bool:=
 xZ (ck ((d.length:Int) - 1)) fun f=>
 zR (σ:=Unit) (
  qT (σ:=Unit) (ρ:=Bool) (fun (A:Nat) (e:Con) (s:Unit)=>
    match s with
    | _=>
    zR (σ:=Int) (
     qT (σ:=Int) (ρ:=(Ctl (Unit) Bool)) (fun (B:Nat) (h i:Int)=>
      xZ (jT i h) fun j=>
      some (.go j)) e.scope 0 0) fun n=>
    zR (σ:=Bool) (
     if (n==f) then  xZ (gS c.t e d) fun p=>
      some (.nx (!p)) else  some (.nx false)) fun y=>
    if y then
     some (.ret false)
    else
     some (.go ())) c.x.cons 0 ()) fun _=>
 some true
theorem rM {B:Nat→Prop} {C:l05Find} {T:List Int} (r:Bool) (d:cH C T=some r) {p:Value} {t:Value} (h:World) (hN:∀ c,B c→c<h.heap.size) (j:Bo B h (Pt 5 aD) p C) (U:Bo B h (Sl 1 xI) t T):Calls Tryz.prog 92 #[p,t] h (kL (.bool r) h):=by
 unfold cH at d
 refine xX (L:=[(0,p),(1,t)]) func92 rfl rfl rfl (sc rfl (sc rfl sn)) (fun a F=>?_);have H:=Sep.start hN;refine xV (xA 1 F rfl fun a F=>vG (xA 1 F rfl fun a F=>oL underlying41 F rfl rfl U (fun a i1 F=>?_)));obtain⟨G,c1,d⟩:=xB d;refine gM F rfl rfl rfl c1 fun a F=>xA 1 F rfl fun a F=>xJ (xF (xV (xA 1 F rfl fun a F=>xJ ?_)));obtain⟨V,d,Q⟩:=xM d;refine oH (fun a w=>V= .nx ()∧Sk a 65 []∧Sep [] B h w []) ?_ ?_
 ·
  refine oJ ?_;obtain⟨a5,a6,d⟩:=qP d;refine qK (fun g a w=>∃ (i:Nat) (y:List Con),(i≤C.x.cons.length∧C.x.cons.drop i=y)∧y.length=g∧qT a5 y i ()=some V∧Sk a 65 [(6,xC (i:Int)),(0,p),(1,t),(5,xC G)]∧Sep [] B h w []) C.x.cons.length ?_ ?_
  ·
   exact⟨0,C.x.cons,⟨Nat.zero_le _,rfl⟩,rfl,d,F.su,H⟩
  intro g1 a w ⟨i,y,e,a7,d,F,H⟩
  cases y with
  | nil=>
   replace d:=qO d;have q1:=qQ e.1 e.2;have N:=vS q1;refine xF (xV (xA 2 F rfl fun a F=>oN F rfl rfl j fun a F=>oF (s':=1) xDi F rfl rfl j aD.f1 fun a p1 h1 F=>olP isAgg64 F rfl rfl H.sm h1 fun a v2 W F=>oN F rfl rfl W fun a F=>oF (s':=1) zT F rfl rfl W xK.f1 fun a p2 h3 F=>olS isAgg27 F rfl rfl H.sm h3 (fun a v3 h4 F=>?_)));refine oL underlying27 F rfl rfl h4 fun a i2 F=>xA 1 F rfl fun a F=>xJ (zD F rfl N (qJ (qM (qM (zQ (xG ?_))))));exact⟨(zH d),F.sub sn,H⟩
  | cons K y=>
   subst a7;replace e:=oZ e.2;have y1:=qX e.2.1;obtain⟨bc,d,R⟩:=qG d;rw[a6] at d;have N:=vE e.1;refine xF (xV (xA 2 F rfl fun a F=>oN F rfl rfl j fun a F=>oF (s':=1) xDi F rfl rfl j aD.f1 fun a p3 h5 F=>olP isAgg64 F rfl rfl H.sm h5 fun a v4 X F=>oN F rfl rfl X fun a F=>oF (s':=1) zT F rfl rfl X xK.f1 fun a p4 h7 F=>olS isAgg27 F rfl rfl H.sm h7 (fun a v5 h8 F=>?_)));refine oL underlying27 F rfl rfl h8 fun a Y F=>xA 1 F rfl fun a F=>xJ (zC F rfl N (xN (xG (xF ?_))));have j1:=gP (Nat.le_of_lt e.1) Y;have m1:=zU e.1 Y;refine oJ (xV (xA 1 F rfl fun a F=>oN F rfl rfl j fun a F=>oF (s':=1) xDi F rfl rfl j aD.f1 fun a p5 h9 F=>olP isAgg64 F rfl rfl H.sm h9 fun a v6 S F=>oN F rfl rfl S fun a F=>oF (s':=1) zT F rfl rfl S xK.f1 fun a p6 a8 F=>olS isAgg27 F rfl rfl H.sm a8 fun a v7 a9 F=>xA 1 F rfl fun a F=>?_));refine oI underlying27 sizeOf69 F rfl rfl rfl a9 y1 fun a Z n F=>xA 1 F rfl fun a F=>vG (xA 1 F rfl fun a F=>xJ (xF (xF ?_)));refine xY (xA 1 F rfl fun a F=>xJ ?_);obtain⟨o2,d,aa⟩:=xM d;refine oH (fun a w=>∃ (I:Int),o2= .nx I∧Sk a 65 [(0,p),(1,t),(5,xC G),(6,xC (i:Int)),(7,Z),(8,xC I)]∧Sep [] B h w []∧xS I) ?_ ?_
   ·
    refine oJ ?_;obtain⟨ab,ac,d⟩:=qP d;refine qK (fun g a w=>∃ (D:Nat) (A:List Int) (J:Int),(D≤K.scope.length∧K.scope.drop D=A)∧A.length=g∧qT ab A D J=some o2∧Sk a 65 [(9,xC (D:Int)),(0,p),(1,t),(5,xC G),(6,xC (i:Int)),(7,Z),(8,xC J)]∧Sep [] B h w []∧xS J) K.scope.length ?_ ?_
    ·
     exact⟨0,K.scope,0,⟨Nat.zero_le _,rfl⟩,rfl,d,F.su,H,(show xS (0) by decide)⟩
    intro g2 a w ⟨D,A,J,f,ad,d,F,H,i4⟩
    cases A with
    | nil=>
     replace d:=qO d;have q2:=qQ f.1 f.2;have O:=vS q2;refine xF (xV (xA 2 F rfl fun a F=>oN F rfl rfl n fun a F=>oF (s':=1) bM F rfl rfl n oR.f1 fun a p8 ae F=>olS isAgg41 F rfl rfl H.sm ae fun a v8 af F=>oL underlying41 F rfl rfl af fun a i5 F=>xA 1 F rfl fun a F=>qU ?_));refine xG (zD F rfl O (qJ (qM (qM (zQ (xG ?_))))));exact⟨J,(zH d),F.su,H,i4⟩
    | cons x3 A=>
     subst ad;replace f:=oZ f.2;have y2:=qX f.2.1;obtain⟨bd,d,ag⟩:=qG d;rw[ac] at d;have O:=vE f.1;refine xF (xV (xA 2 F rfl fun a F=>oN F rfl rfl n fun a F=>oF (s':=1) bM F rfl rfl n oR.f1 fun a p9 ah F=>olS isAgg41 F rfl rfl H.sm ah fun a v9 ai F=>oL underlying41 F rfl rfl ai fun a i6 F=>xA 1 F rfl fun a F=>qU ?_));refine xG (zC F rfl O (xN (xG (xF ?_))));have j2:=gP (Nat.le_of_lt f.1) i6;have m2:=zU f.1 i6;refine oJ (xY (xA 2 F rfl fun a F=>oN F rfl rfl n fun a F=>oF (s':=1) bM F rfl rfl n oR.f1 fun a be aj F=>olS isAgg41 F rfl rfl H.sm aj fun a bf ak F=>xA 1 F rfl fun a F=>oI underlying41 sizeOf2 F rfl rfl rfl ak y2 fun a bg al F=>olI isAgg2 F rfl rfl H.sm al (fun a i7 F=>?_)));obtain⟨z2,c2,d⟩:=xB d;refine oKI F rfl call122 rfl H (xAs z2 c2 _ aA i4 i7) fun a w H am F=>xA 1 F rfl fun a F=>qU (vH (xG (xY (xA 1 F rfl fun a F=>vP F rfl rfl rfl m2 fun a F=>xA 1 F rfl fun a F=>xJ ?_))));replace d:=vU d ag;exact⟨_,Nat.lt_succ_self _,D+1,A,z2,⟨f.1,f.2.2⟩,rfl,d,F.su,H,am⟩
   rintro a w ⟨I,rfl,F,H,i8⟩
   have d:=xW aa;refine xG (xF ?_);obtain⟨o3,d,an⟩:=xM d;refine oH (fun a w=>∃ (P:Bool),o3= .nx P∧Sk a 65 [(0,p),(1,t),(5,xC G),(6,xC (i:Int)),(64,.bool P)]∧Sep [] B h w []) ?_ ?_
   ·
    refine xY (xA 4 F rfl fun a F=>?_)
    rcases vR (I==G) with E | E
    ·
     replace d:=vX E d;have F:=F.eb 55 rfl E;refine xA 1 F rfl fun a F=>oN F rfl rfl j fun a F=>oF (s':=1) xFy F rfl rfl j aD.f0 fun a bh ao F=>olP isAgg63 F rfl rfl H.sm ao fun a bi aq F=>xA 2 F rfl fun a F=>?_;obtain⟨z3,c3,d⟩:=xB d;refine oK F rfl call123 rfl H (wD z3 c3 _ aA (H.a aq) (H.a n) (H.a U)) fun a w H F=>xA 2 F rfl fun a F=>xJ ?_;exact⟨(!z3),(zH d),F.su,H⟩
    replace d:=vW E d;have F:=F.eb 55 rfl E;refine xA 9 F rfl fun a F=>xJ ?_;exact⟨false,(zH d),F.su,H⟩
   rintro a w ⟨P,rfl,F,H⟩
   have d:=xW an;refine xG (qV F rfl (fun M=>?_) (fun M=>?_))
   ·
    replace d:=vX M d;refine xV (xA 1 F rfl fun a F=>xJ (xR (vT (oQ (oQ ?_)))));replace d:=kD d R;refine vT (oQ ?_);replace d:=zZ d Q;refine oQ (xT F rfl (oE F rfl) ?_);obtain rfl:=oj d;exact⟨rfl,H.bl⟩
   replace d:=vW M d;refine xN (vH (xG (xY (xA 1 F rfl fun a F=>vP F rfl rfl rfl m1 fun a F=>xA 1 F rfl fun a F=>xJ ?_))));replace d:=vU d R;exact⟨_,Nat.lt_succ_self _,i+1,y,⟨e.1,e.2.2⟩,rfl,d,F.su,H⟩
 rintro a w ⟨rfl,F,H⟩
 have d:=xW Q;refine xG (xV (xA 1 F rfl fun a F=>xJ (xR (xT F rfl (oE F rfl) ?_))));obtain rfl:=oj d;exact⟨rfl,H.bl⟩
def zE:Nat→Template→Instance→Int→(List (List Int))→Int→(List Int)→Option ((List (List Int))×Int)
  | 0,_,_,_,_,_,_=>none
  | N+1,h,i,c,e,n,j=>
  if ((j.length:Int)==i.vars) then
   xZ (ck (n+1)) fun x=>
   zR (σ:=(List (List Int))) (
    if (decide ((e.length:Int)<c)) then
     xZ (cV j) fun y=>
     xZ (ap e ([y])) fun A=>
     some (.nx A)
    else
     some (.nx e)) fun B=>
   some (B,x)
  else
   zR (σ:=(List (List Int))×Int) (
    aS (σ:=(List (List Int))×Int) (ρ:=(List (List Int))×Int) (fun(C:Nat) (s:(List (List Int))×Int)=>
      match s with
      | (d,f)=>
      zR (σ:=Bool) (
       if (decide (0<c)) then  some (.nx ((d.length:Int)==c)) else  some (.nx false)) fun D=>
      if D then
       some (.ret (d,f))
      else
       xZ (cV j) fun E=>
       xZ (ap E ([(C:Int)])) fun p=>
       xZ (cH (l05Find.mk h i c d f) p) fun F=>
       if F then
        xZ (zE N h i c d f p) fun t=>
        some (.go (t.1,t.2))
       else
        some (.go (d,f))) h.size.toNat 0 (e,n)) fun(G,H)=>
   some (G,H)
theorem pO:∀ (N:Nat) {B:Nat→Prop} {P:Template} {a0:Instance} {h:Int} {C:List (List Int)} {Q:Int} {x1:List Int} (r:(List (List Int))×Int) (e:zE N P a0 h C Q x1=some r) {f:Nat} {j:Value} {n:Value} {p:Value} {T:Value} {A:List Nat} (i:World) (hN:∀ c,B c→c<i.heap.size) (S0:Sep A B i i [bx f [j,n,xC h,p,xC Q] 89,rl 1 (vQ 1 xI) 41 p C]) (J:Bo B i (Pt 2 xH) j P) (V:Bo B i (Pt 2 xK) n a0) (a6:xS h) (al:xS Q) (X:Bo B i (Sl 1 xI) T x1),Calls Tryz.prog 46 #[oO f,T] i (Gv (fun v w'=>∃ (am:Value),v= .tuple #[]∧Sep A B i w' [bx f [j,n,xC h,am,xC r.2] 89,rl 1 (vQ 1 xI) 41 am r.1]∧xS r.2)):=by
  intro N
  induction N with
  | zero=>intro B P a0 h C Q x1 r e;unfold zE at e;cases e
  | succ N ih=>
  intro B P a0 h C Q x1 r e f j n p T A i hN S0 J V a6 al X;rw[zE] at e;refine xX (L:=[(0,oO f),(1,T)]) func46 rfl rfl rfl (sc rfl (sc rfl sn)) (fun a F=>?_);have H:=S0;refine xF (xV (xA 1 F rfl fun a F=>oL underlying41 F rfl rfl X fun a i1 F=>xA 1 F rfl fun a F=>vO F rfl rfl fun a F=>oD xDi F rfl rfl rfl fun a F=>oB isAgg64 F rfl rfl (H.b 0 rfl) rfl fun a F=>oN F rfl rfl V fun a F=>oF (s':=1) eE F rfl rfl V xK.f0 (fun a p1 h1 F=>?_)));refine olI isAgg2 F rfl rfl H.sm h1 fun a i2 F=>xA 1 F rfl fun a F=>xJ (qV F rfl (fun a7=>?_) (fun a7=>?_))
  ·
   replace e:=vX a7 e;refine xV (xA 1 F rfl fun a F=>vO F rfl rfl fun a F=>oD xGq F rfl rfl rfl fun a F=>oB isAgg2 F rfl rfl (H.b 0 rfl) rfl (fun a F=>?_));obtain⟨a8,c1,e⟩:=xB e;refine cX F rfl rfl rfl c1 fun a F=>vO F rfl rfl fun a F=>oD xGq F rfl rfl rfl fun a F=>oW sizeOf2 F rfl rfl rfl H rfl rfl rfl fun w H=>xJ (xF (xF (xQ H (by kernel_rfl) (by kernel_rfl) (xP F rfl (fun w l=>xL F rfl) fun a F=>xP F rfl (fun w l=>vM F rfl) (fun a F=>?_)))));refine xP F rfl (fun w l=>oM yZ F rfl rfl) fun a F=>qB isAgg38 F rfl rfl (H.qb 0 rfl) rfl fun a F=>qL underlying38 F rfl rfl (H.l 1 rfl) fun a i3 F=>xP F rfl (fun w l=>xL F rfl) fun a F=>xP F rfl (fun w l=>vM F rfl) fun a F=>xP F rfl (fun w l=>oM xFs F rfl rfl) fun a F=>qB isAgg3 F rfl rfl (H.qb 0 rfl) rfl fun a F=>xP F rfl (fun w l=>sB F rfl rfl) fun a F=>kZ fun w H=>xG ?_;obtain⟨o1,e,b1⟩:=xM e;refine oH (fun a w=>∃ (s1:List (List Int)) (v2:Value),o1= .nx s1∧Sk a 83 [(0,oO f)]∧Sep A B i w [bx f [j,n,xC h,v2,xC a8] 89,rl 1 (vQ 1 xI) 41 v2 s1]) ?_ ?_
   ·
    refine qV F rfl (fun a9=>?_) (fun a9=>?_)
    ·
     replace e:=vX a9 e;obtain⟨U,c2,e⟩:=xB e;obtain⟨z2,c3,e⟩:=xB e;refine xD H (by kernel_rfl) fun w H=>dp (fun G=>∀ (v3:Value) (a:Act) (w:World),Sk a 83 [(0,oO f),(33,oO f),(37,p),(40,v3)]→Sep A B i w [rl 1 (vQ 1 xI) 41 v3 ([U]),bx f [j,n,xC h,p,xC a8] 89,rl 1 (vQ 1 xI) 41 p C]→∀ M,M = #[true,true,true,true,true,true,true,true,false,false,false,false]→G 4 M a w) ?_ (fun H1=>?_)
     ·
      intro v3 a w F H M aa;subst aa;refine xE H 8 rfl (by kernel_rfl) (oPL (sz:=1) (R:=(vQ 1 xI)) (z:=(qD)) (bytes:=24) underlying38 (by kernel_rfl) rfl rfl F rfl rfl rfl (H.s [2,0,1] rfl rfl) c3 fun a w v4 H F=>xJ ⟨⟨_,H⟩,?_⟩);refine qE 9 rfl (by kernel_rfl) (xO F rfl (fun w l=>vM F rfl) fun a F=>qE 10 rfl (by kernel_rfl) (xO F rfl (fun w l=>oM yZ F rfl rfl) fun a F=>xE H 11 rfl (by kernel_rfl) (oW sizeOf38 F rfl rfl rfl (H.s [1,0] rfl rfl) ((H.s [1,0] rfl rfl).l 1 rfl).one rfl rfl fun w H=>xJ ⟨⟨_,H⟩,?_⟩)));refine vZ (by kernel_rfl) (xG ?_);exact⟨z2,v4,(zH e),F.su,H⟩
     refine dp (fun G=>∀ (v5:Value) (a:Act) (w:World),Sk a 83 [(0,oO f),(33,oO f),(37,p),(39,v5)]→Sep A B i w [rl 1 xI 2 v5 U,bx f [j,n,xC h,p,xC a8] 89,rl 1 (vQ 1 xI) 41 p C]→∀ M,M = #[true,true,true,true,true,true,true,false,false,false,false,false]→G 5 M a w) ?_ (fun H2=>?_)
     ·
      intro v5 a w F H M aa;subst aa;refine xE H 7 rfl (by kernel_rfl) ?_;have H:=H.os;refine eZ (R:=(vQ 1 xI)) (y:=U) underlying38 sizeOf41 zeroValue41 rfl rfl F rfl rfl H El.sl fun a w v6 H F=>xJ ⟨⟨_,H⟩,?_⟩;exact H1 v6 _ _ (F.su) H _ (by kernel_rfl)
     refine qW 0 rfl (by kernel_rfl) (xO F rfl (fun w l=>xL F rfl) fun a F=>qW 1 rfl (by kernel_rfl) (xO F rfl (fun w l=>xL F rfl) fun a F=>qE 2 rfl (by kernel_rfl) (xO F rfl (fun w l=>vM F rfl) fun a F=>qE 3 rfl (by kernel_rfl) (xO F rfl (fun w l=>oM yZ F rfl rfl) fun a F=>qW 5 rfl (by kernel_rfl) (xO F rfl (fun w l=>xL F rfl) fun a F=>kP [4,6] (by kernel_rfl) (by simp) ⟨⟨_,rfl,?_⟩,⟨_,rfl,?_⟩,trivial⟩)))))
     ·
      refine kJ H (oB isAgg38 F rfl rfl (H.b 0 rfl) rfl fun a F=>xJ ⟨⟨_,H⟩,?_⟩);refine xE H 6 rfl (by kernel_rfl) (oG F rfl call59 rfl (eD U c2 _ aA (H.a X)) (fun a O w ⟨v7,hv1,S⟩ F=>?_));subst O;have H:=H.r1 S n0;refine xJ ⟨⟨_,H⟩,?_⟩;exact H2 v7 _ _ (F.su) H _ (by kernel_rfl)
     refine kJ H (oG F rfl call59 rfl (eD U c2 _ aA (H.a X)) (fun a O w ⟨v8,hv2,S⟩ F=>?_));subst O;have H:=H.r1 S n0;refine xJ ⟨⟨_,H⟩,?_⟩;refine kP [4,7] (by kernel_rfl) (by simp) ⟨⟨_,rfl,?_⟩,⟨_,rfl,?_⟩,trivial⟩
     ·
      refine kJ H (oB isAgg38 F rfl rfl (H.b 1 rfl) rfl fun a F=>xJ ⟨⟨_,H⟩,?_⟩);exact H2 v8 _ _ (F.su) H _ (by kernel_rfl)
     refine kJ H ?_;have H:=H.os;refine eZ (R:=(vQ 1 xI)) (y:=U) underlying38 sizeOf41 zeroValue41 rfl rfl F rfl rfl H El.sl fun a w v9 H F=>xJ ⟨⟨_,H⟩,?_⟩;refine xE H 4 rfl (by kernel_rfl) (oB isAgg38 F rfl rfl (H.b 1 rfl) rfl fun a F=>xJ ⟨⟨_,H⟩,?_⟩);exact H1 v9 _ _ (F.su) H _ (by kernel_rfl)
    replace e:=vW a9 e;refine xN (xG ?_);exact⟨C,p,(zH e),F.su,H⟩
   rintro a w ⟨s1,v2,rfl,F,H⟩
   have e:=xW b1;refine xG (xR (oQ (bodyPost_ret (results_none rfl _ _ _) F.d ?_)));obtain rfl:=oj e;exact⟨_,rfl,v2,rfl,H,(kV c1)⟩
  replace e:=vW a7 e;refine xN (xG (xV (xA 1 F rfl fun a F=>xJ ?_)));obtain⟨o2,e,an⟩:=xM e;refine oH (fun a w=>∃ (s2:List (List Int)) (a1:Value) (s3:Int),o2= .nx (s2,s3)∧Sk a 83 [(0,oO f)]∧Sep A B i w [bx f [j,n,xC h,a1,xC s3] 89,rl 1 (vQ 1 xI) 41 a1 s2]∧xS s3) ?_ ?_
  ·
   refine oJ ?_;obtain⟨b2,b3,e⟩:=dP e;refine qK (fun g a w=>∃ (D:Nat) (E:List (List Int)) (t:Value) (I:Int),D+g=P.size.toNat∧aS b2 g D (E,I)=some o2∧Sk a 83 [(4,xC (D:Int)),(0,oO f),(1,T)]∧Sep A B i w [bx f [j,n,xC h,t,xC I] 89,rl 1 (vQ 1 xI) 41 t E]∧xS I) P.size.toNat ?_ ?_
   ·
    exact⟨0,C,p,Q,(Nat.zero_add _),e,F.su,H,al⟩
   intro g1 a w ⟨D,E,t,I,a2,e,F,H,Y⟩
   cases g1 with
   | zero=>
    replace e:=cC e;have l1:=gH a2;refine xF (xV (xA 2 F rfl fun a F=>vO F rfl rfl fun a F=>oD xFy F rfl rfl rfl fun a F=>oB isAgg63 F rfl rfl (H.b 0 rfl) rfl fun a F=>oN F rfl rfl J fun a F=>oF (s':=1) iD F rfl rfl J xH.f0 fun a p2 h2 F=>olI isAgg2 F rfl rfl H.sm h2 (fun a i5 F=>?_)));refine xA 1 F rfl fun a F=>xJ (zD F rfl l1 (qJ (qM (qM (zQ (xG ?_))))));exact⟨E,t,I,(zH e),F.su,H,Y⟩
   | succ g1=>
    obtain⟨ck1,e,ab⟩:=cI e;rw[b3] at e;have l1:=eR a2;refine xF (xV (xA 2 F rfl fun a F=>vO F rfl rfl fun a F=>oD xFy F rfl rfl rfl fun a F=>oB isAgg63 F rfl rfl (H.b 0 rfl) rfl fun a F=>oN F rfl rfl J fun a F=>oF (s':=1) iD F rfl rfl J xH.f0 fun a p3 h3 F=>olI isAgg2 F rfl rfl H.sm h3 (fun a i6 F=>?_)));refine xA 1 F rfl fun a F=>xJ (zC F rfl l1 (xN (xG (xF ?_))));have j1:=uA a2 i6;have m1:=jB a2 i6;refine oJ (xF (xF ?_));obtain⟨o3,e,b4⟩:=xM e;refine oH (fun a w=>∃ (s6:Bool),o3= .nx s6∧Sk a 83 [(0,oO f),(1,T),(4,xC (D:Int)),(71,.bool s6)]∧Sep A B i w [bx f [j,n,xC h,t,xC I] 89,rl 1 (vQ 1 xI) 41 t E]) ?_ ?_
    ·
     refine xQ H (by kernel_rfl) (by kernel_rfl) (xP F rfl (fun w l=>xL F rfl) fun a F=>xP F rfl (fun w l=>vM F rfl) fun a F=>xP F rfl (fun w l=>oM xFs F rfl rfl) fun a F=>qB isAgg3 F rfl rfl (H.qb 0 rfl) rfl fun a F=>xP F rfl (fun w l=>wZ F rfl rfl) fun a F=>xP F rfl (fun w l=>xL F rfl) (fun a F=>?_))
     rcases vR (decide (0<h)) with W | W
     ·
      replace e:=vX W e;have F:=F.eb 60 rfl W;refine xP F rfl (fun w l=>xL F rfl) fun a F=>xP F rfl (fun w l=>vM F rfl) fun a F=>xP F rfl (fun w l=>oM yZ F rfl rfl) fun a F=>qB isAgg38 F rfl rfl (H.qb 0 rfl) rfl fun a F=>qL underlying38 F rfl rfl (H.l 1 rfl) fun a i7 F=>xP F rfl (fun w l=>xL F rfl) fun a F=>xP F rfl (fun w l=>vM F rfl) fun a F=>xP F rfl (fun w l=>oM xFs F rfl rfl) fun a F=>qB isAgg3 F rfl rfl (H.qb 0 rfl) rfl fun a F=>xP F rfl (fun w l=>tN F rfl rfl) fun a F=>xP F rfl (fun w l=>cD F rfl rfl) (fun a F=>?_);refine kZ fun w H=>xG ?_;exact⟨((E.length:Int)==h),(zH e),F.su,H⟩
     replace e:=vW W e;have F:=F.eb 60 rfl W;refine qR F rfl rfl fun a F=>qR F rfl rfl fun a F=>qR F rfl rfl fun a F=>qR F rfl rfl fun a F=>qR F rfl rfl fun a F=>qR F rfl rfl fun a F=>qR F rfl rfl fun a F=>qR F rfl rfl fun a F=>qR F rfl rfl fun a F=>qR F rfl rfl fun a F=>xP F rfl (fun w l=>cG F rfl rfl) (fun a F=>?_);refine kZ fun w H=>xG ?_;exact⟨false,(zH e),F.su,H⟩
    rintro a w ⟨s6,rfl,F,H⟩
    have e:=xW b4;refine xG (qV F rfl (fun ac=>?_) (fun ac=>?_))
    ·
     replace e:=vX ac e;refine xR (oQ (vT (oQ (oQ ?_))));replace e:=kD e ab;refine vT (oQ ?_);replace e:=zZ e an;refine bodyPost_ret (results_none rfl _ _ _) F.d ?_;obtain rfl:=oj e;exact⟨_,rfl,t,rfl,H,Y⟩
    replace e:=vW ac e;refine xN (xG (xV (xA 1 F rfl fun a F=>?_)));obtain⟨z3,c4,e⟩:=xB e;refine oG F rfl call59 rfl (eD z3 c4 _ aA (H.a X)) (fun a O w ⟨c8,c9,S⟩ F=>?_);subst O;have H:=H.r1 S n0;refine xA 1 F rfl fun a F=>cM (R:=xI) (y:=(D:Int)) underlying41 sizeOf2 zeroValue2 rfl rfl F rfl rfl H (Eo.int j1) (fun a w ca H F=>?_);obtain⟨z4,c5,e⟩:=xB e;refine oPL (sz:=1) (R:=xI) (z:=(xC 0)) (bytes:=8) underlying41 (by kernel_rfl) rfl rfl F rfl rfl rfl (H.s [1,0,2,3] rfl rfl) c5 fun a w cb H F=>xA 1 F rfl fun a F=>vG (xA 2 F rfl fun a F=>?_);obtain⟨z5,c6,e⟩:=xB e;refine oK F rfl call92 rfl H (rM z5 c6 _ aA (aD.b (H.g 1 rfl).bk (H.a J) (H.a V) a6 (H.l 2 rfl) Y) (H.l 0 rfl)) fun a w H F=>xJ (qV F rfl (fun ad=>?_) (fun ad=>?_))
    ·
     replace e:=vX ad e;refine xY (xA 2 F rfl fun a F=>?_);obtain⟨w1,rfl⟩:∃ x,x=w:=⟨_,rfl⟩;have cc:=H.sm;obtain⟨X1,N1,g2,e1,H,b5,cd⟩:=H.fza;have h4:=g2.ld;obtain⟨Z,c7,e⟩:=xB e;obtain⟨X2,K1,b6⟩:=Sep.lend (K:=[bx f [j,n,xC h,t,xC I] 89,rl 1 (vQ 1 xI) 41 t E]) (L:=[]) H;refine oG F rfl call46 rfl (ih Z c7 _ H.hN K1 (H.u (e1 J)) (H.u (e1 V)) a6 Y (H.u h4)) (fun a O w ⟨ae,ce,S,i8⟩ F=>?_);subst O;have H:Sep X1 N1 w1 w [bx f [j,n,xC h,ae,xC Z.2] 89,rl 1 (vQ 1 xI) 41 ae Z.1]:=b6 S;refine qU (vH (xG (xY (xA 1 F rfl fun a F=>vP F rfl rfl rfl m1 fun a F=>xA 1 F rfl fun a F=>xJ ?_))));replace e:=vU e ab;exact⟨_,Nat.lt_succ_self _,D+1,Z.1,ae,Z.2,(by omega),e,F.su,((b5.1 H (Ns.all ⟨n0,⟨n0,trivial⟩⟩)).s [1,2] rfl rfl),i8⟩
    replace e:=vW ad e;refine xN (vH (xG (xY (xA 1 F rfl fun a F=>vP F rfl rfl rfl m1 fun a F=>xA 1 F rfl fun a F=>xJ ?_))));replace e:=vU e ab;exact⟨_,Nat.lt_succ_self _,D+1,E,t,I,(by omega),e,F.su,(H.s [1,2] rfl rfl),Y⟩
  rintro a w ⟨s2,a1,s3,rfl,F,H,i9⟩
  have e:=xW an;refine xJn (bodyPost_ret (results_none rfl _ _ _) F.d ?_);obtain rfl:=oj e;exact⟨_,rfl,a1,rfl,H,i9⟩
theorem lE {B:Nat→Prop} {N:Nat} {n:Template} {p:Instance} {e:Int} {t:List (List Int)} {f:Int} {A:List Int} (r:(List (List Int))×Int) (I:zE N n p e t f A=some r) {j:Nat} {h:Value} {i:Value} {x:Value} {C:Value} {D:List Nat} (d:World) (J:∀ c,B c→c<d.heap.size) (K:Sep D B d d [bx j [h,i,xC e,x,xC f] 89,rl 1 (vQ 1 xI) 41 x t]) (E:Bo B d (Pt 2 xH) h n) (F:Bo B d (Pt 2 xK) i p) (G:xS e) (H:xS f) (L:Bo B d (Sl 1 xI) C A):Calls Tryz.prog 46 #[oO j,C] d (Gv (fun v w'=>∃ (y:Value),v= .tuple #[]∧Sep D B d w' [bx j [h,i,xC e,y,xC r.2] 89,rl 1 (vQ 1 xI) 41 y r.1]∧xS r.2)):=
  pO N r I d J K E F G H L
def fT (N:Nat) (c:Template) (d:Instance) (e:Int):Option (List (List Int)):=
 xZ (zE N c d e ([]) 0 ([])) fun f=>
 some f.1
theorem rO {B:Nat→Prop} {N:Nat} {t:Template} {y:Instance} {d:Int} (r:(List (List Int))) (i:fT N t y d=some r) {e:Value} {f:Value} (h:World) (O:∀ c,B c→c<h.heap.size) (A:Bo B h (Pt 2 xH) e t) (C:Bo B h (Pt 2 xK) f y) (G:xS d):Calls Tryz.prog 29 #[e,f,xC d] h (Gv (fun v w'=>∃ (p:Value),v=p∧Sep [] B h w' [rl 1 (vQ 1 xI) 41 p r])):=by
 unfold fT at i
 refine xX (L:=[(0,e),(1,f),(2,xC d)]) func29 rfl rfl rfl (sc rfl (sc rfl (sc rfl sn))) (fun a F=>?_);have H:=Sep.start O;refine xV (xA 1 F rfl fun a F=>vG (xA 3 F rfl fun a F=>vY underlying89 zeroValue89 (fun w=>by simp [sizeOf2,sizeOf3,sizeOf38,sizeOf63,sizeOf64];rfl) F rfl rfl rfl rfl rfl (oc (H.a A).pone (oc (H.a C).pone (oc rfl on))) rfl rfl (fun a F=>?_)));refine oX F rfl rfl rfl H fun a w D H F=>xA 1 F rfl fun a F=>vG (xA 1 F rfl fun a F=>oR0 (R:=xI) underlying41 sizeOf2 F rfl H (fun a w v2 H F=>?_));have H:=H.nl 1 (vQ 1 xI) 41;obtain⟨P,rfl⟩:∃ x,x=w:=⟨_,rfl⟩;have Y:=H.sm;obtain⟨Q,I,T,E,H,J,Z⟩:=(H.s [1,0,2] rfl rfl).fza;have U:=T.ld;obtain⟨j,V,i⟩:=xB i;obtain⟨X2,K1,M⟩:=Sep.lend (K:=[bx D [e,f,xC d,qD,xC 0] 89,rl 1 (vQ 1 xI) 41 qD ([])]) (L:=[]) (H.s [1,0] rfl rfl);refine oG F rfl call46 rfl (lE j V _ H.hN K1 (H.u (E A)) (H.u (E C)) G (show xS 0 by decide) (H.u U)) (fun a W w ⟨n,X,S,i1⟩ F=>?_);subst W;have H:Sep Q I P w [bx D [e,f,xC d,n,xC j.2] 89,rl 1 (vQ 1 xI) 41 n j.1]:=M S;refine vG (xA 1 F rfl fun a F=>vO F rfl rfl fun a F=>oD yZ F rfl rfl rfl fun a F=>oB isAgg38 F rfl rfl (H.b 0 rfl) rfl fun a F=>xA 1 F rfl fun a F=>xJ ?_);refine xR ?_;have H:=(J.1 H (Ns.all ⟨n0,⟨n0,trivial⟩⟩));refine xT F rfl (oE F rfl) ?_;obtain rfl:=oj i;exact⟨_,rfl,n,rfl,(H.s [2] rfl rfl)⟩
def dK (N:Nat) (c:Template) (d:Instance):Option ((List (List Int))×Int):=
 xZ (eI (Template.mk c.size c.rels) (Instance.mk d.vars d.cons)) fun f=>
 if (!f) then
  some ([],1)
 else
  xZ (fT N (Template.mk c.size c.rels) (Instance.mk d.vars d.cons) 201) fun e=>
  if (decide (200<(e.length:Int))) then
   some ([],3)
  else
   some (e,0)
theorem rL {B:Nat→Prop} {N:Nat} {p:Template} {t:Instance} (r:(List (List Int))×Int) (d:dK N p t=some r) {i:Value} {j:Value} (e:World) (D:∀ c,B c→c<e.heap.size) (E:Bo B e (kK 2 xH) i p) (G:Bo B e (kK 2 xK) j t):Calls Tryz.prog 8 #[i,j] e (Gv (fun v w'=>∃ (n:Value),v= .tuple #[n,xC r.2]∧Sep [] B e w' [rl 1 (vQ 1 xI) 41 n r.1]∧xS r.2)):=by
 unfold dK at d
 refine xX (L:=[(0,i),(1,j)]) func8 rfl rfl rfl (sc rfl (sc rfl sn)) (fun a F=>?_);have H:=Sep.start D;refine xV ?_;obtain⟨W,rfl,x,y⟩:=xH.o E;refine oX F rfl rfl rfl H (fun a w X H F=>?_);obtain⟨U,rfl,A,C⟩:=xK.o G;refine oX F rfl rfl rfl H fun a w Y H F=>xA 2 F rfl fun a F=>xJ (xF (xV ?_));obtain⟨I,J,d⟩:=xB d;refine oK F rfl call23 rfl H (iU I J _ aA (xH.b (H.g 1 rfl).bk x (H.a y)) (xK.b (H.g 0 rfl).bk A (H.a C))) fun a w H F=>xA 1 F rfl fun a F=>xJ (qV F rfl (fun f=>?_) (fun f=>?_))
 ·
  replace d:=vX f d;refine xV (oR0 (R:=(vQ 1 xI)) underlying38 sizeOf41 F rfl H fun a w K H F=>xA 2 F rfl fun a F=>xJ (xR (oQ (vJ F rfl (oE F rfl) (oE F rfl) ?_))));obtain rfl:=oj d;exact⟨_,rfl,K,rfl,(H.s [0] rfl rfl),(show xS (1) by decide)⟩
 replace d:=vW f d;refine xN (xG (xV ?_));obtain⟨M,O,d⟩:=xB d;refine oG F rfl call29 rfl (rO M O _ aA (xH.b (H.g 1 rfl).bk x (H.a y)) (xK.b (H.g 0 rfl).bk A (H.a C)) (show xS (201) by decide)) (fun a P w ⟨Q,V,S⟩ F=>?_);subst P;have H:=H.r1 S n0;refine xA 1 F rfl fun a F=>xJ (xF (xV (xA 1 F rfl fun a F=>oL underlying38 F rfl rfl (H.l 0 rfl) fun a Z F=>xA 1 F rfl fun a F=>xJ ?_)));refine qV F rfl (fun h=>?_) (fun h=>?_)
 ·
  replace d:=vX h d;refine xV (oR0 (R:=(vQ 1 xI)) underlying38 sizeOf41 F rfl H fun a w T H F=>xA 2 F rfl fun a F=>xJ (xR (oQ (vJ F rfl (oE F rfl) (oE F rfl) ?_))));obtain rfl:=oj d;exact⟨_,rfl,T,rfl,(H.s [0] rfl rfl),(show xS (3) by decide)⟩
 replace d:=vW h d;refine xN (xG (xV (xA 3 F rfl fun a F=>xJ (xR (vJ F rfl (oE F rfl) (oE F rfl) ?_)))));obtain rfl:=oj d;exact⟨_,rfl,Q,rfl,(H.s [0] rfl rfl),(show xS (0) by decide)⟩
def eS (c:Template) (d:Instance) (e:Int):Option Int:=
 xZ (eI c d) fun f=>
 if (!f) then
  some 1
 else
  xZ (bP e 0 5000) fun h=>
  if (!h) then
   some 2
  else
   some 0
theorem nE {B:Nat→Prop} {p:Template} {t:Instance} {f:Int} (r:Int) (d:eS p t f=some r) {j:Value} {n:Value} (e:World) (y:∀ c,B c→c<e.heap.size) (A:Bo B e (Pt 2 xH) j p) (C:Bo B e (Pt 2 xK) n t) (x:xS f):Calls Tryz.prog 52 #[j,n,xC f] e (fS r e):=by
 unfold eS at d
 refine xX (L:=[(0,j),(1,n),(2,xC f)]) func52 rfl rfl rfl (sc rfl (sc rfl (sc rfl sn))) (fun a F=>?_);have H:=Sep.start y;refine xV (xA 1 F rfl fun a F=>xJ (xF (xV (xA 2 F rfl fun a F=>?_))));obtain⟨D,E,d⟩:=xB d;refine oK F rfl call23 rfl H (iU D E _ aA (H.a A) (H.a C)) fun a w H F=>xA 1 F rfl fun a F=>xJ (qV F rfl (fun i=>?_) (fun i=>?_))
 ·
  replace d:=vX i d;refine xV (xA 1 F rfl fun a F=>xJ (xR (oQ (xT F rfl (oE F rfl) ?_))));obtain rfl:=oj d;exact⟨⟨rfl,H.bl⟩,(show xS (1) by decide)⟩
 replace d:=vW i d;refine xN (xG (xF (xV (xA 1 F rfl fun a F=>?_))));obtain⟨G,I,d⟩:=xB d;refine oK F rfl call65 rfl H (bU G I _ aA x (show xS (0) by decide) (show xS (5000) by decide)) fun a w H F=>xA 1 F rfl fun a F=>xJ (qV F rfl (fun h=>?_) (fun h=>?_))
 ·
  replace d:=vX h d;refine xV (xA 1 F rfl fun a F=>xJ (xR (oQ (xT F rfl (oE F rfl) ?_))));obtain rfl:=oj d;exact⟨⟨rfl,H.bl⟩,(show xS (2) by decide)⟩
 replace d:=vW h d;refine xN (xG (xV (xA 1 F rfl fun a F=>xJ (xR (xT F rfl (oE F rfl) ?_)))));obtain rfl:=oj d;exact⟨⟨rfl,H.bl⟩,(show xS (0) by decide)⟩
def dE (d:Template) (e:Instance) (f:List Literal):Option Bool:=
 zR (σ:=Unit) (
  qT (σ:=Unit) (ρ:=Bool) (fun (t:Nat) (c:Literal) (s:Unit)=>
    match s with
    | _=>
    zR (σ:=Bool) (
     xZ (ck (e.vars - 1)) fun h=>
     xZ (bP c.var 0 h) fun i=>
     if (!i) then  some (.nx true) else  xZ (ck (d.size - 1)) fun j=>
      xZ (bP c.value 0 j) fun n=>
      some (.nx (!n))) fun p=>
    if p then
     some (.ret false)
    else
     some (.go ())) f 0 ()) fun _=>
 some true
theorem sT {B:Nat→Prop} {J:Template} {K:Instance} {n:List Literal} (r:Bool) (d:dE J K n=some r) {t:Value} {x:Value} {y:Value} (f:World) (Z:∀ c,B c→c<f.heap.size) (M:Bo B f (Pt 2 xH) t J) (N:Bo B f (Pt 2 xK) x K) (A:Bo B f (Sl 2 xU) y n):Calls Tryz.prog 108 #[t,x,y] f (kL (.bool r) f):=by
 unfold dE at d
 refine xX (L:=[(0,t),(1,x),(2,y)]) func108 rfl rfl rfl (sc rfl (sc rfl (sc rfl sn))) (fun a F=>?_);have H:=Sep.start Z;refine xV (xA 1 F rfl fun a F=>xJ (xF (xV (xA 1 F rfl fun a F=>xJ ?_))));obtain⟨O,d,G⟩:=xM d;refine oH (fun a w=>O= .nx ()∧Sk a 40 []∧Sep [] B f w []) ?_ ?_
 ·
  refine oJ ?_;obtain⟨V,W,d⟩:=qP d;refine qK (fun g a w=>∃ (i:Nat) (j:List Literal),(i≤n.length∧n.drop i=j)∧j.length=g∧qT V j i ()=some O∧Sk a 40 [(7,xC (i:Int)),(0,t),(1,x),(2,y)]∧Sep [] B f w []) n.length ?_ ?_
  ·
   exact⟨0,n,⟨Nat.zero_le _,rfl⟩,rfl,d,F.su,H⟩
  intro g1 a w ⟨i,j,e,X,d,F,H⟩
  cases j with
  | nil=>
   replace d:=qO d;have q1:=qQ e.1 e.2;have D:=vS q1;refine xF (xV (xA 2 F rfl fun a F=>oL underlying32 F rfl rfl A fun a i1 F=>xA 1 F rfl fun a F=>xJ (zD F rfl D (qJ ?_))));refine qM (qM (zQ (xG ?_)));exact⟨(zH d),F.sub sn,H⟩
  | cons x3 j=>
   subst X;replace e:=oZ e.2;have P:=qX e.2.1;obtain⟨ad,d,I⟩:=qG d;rw[W] at d;have D:=vE e.1;refine xF (xV (xA 2 F rfl fun a F=>oL underlying32 F rfl rfl A fun a Q F=>xA 1 F rfl fun a F=>xJ (zC F rfl D (xN ?_))));refine xG (xF ?_);have j1:=gP (Nat.le_of_lt e.1) Q;have m1:=zU e.1 Q;refine oJ (xF ?_);obtain⟨o2,d,Y⟩:=xM d;refine oH (fun a w=>∃ (E:Bool),o2= .nx E∧Sk a 40 [(0,t),(1,x),(2,y),(7,xC (i:Int)),(39,.bool E)]∧Sep [] B f w []) ?_ ?_
   ·
    refine xQ H (by kernel_rfl) (by kernel_rfl) (xP F rfl (fun w l=>xL F rfl) fun a F=>xP F rfl (fun w l=>xL F rfl) fun a F=>qI underlying32 sizeOf35 F rfl rfl rfl A P fun a p1 h1 F=>qF (s':=1) nW F rfl rfl h1 xU.f0 fun a p2 h2 F=>qlI isAgg2 F rfl rfl H.q h2 fun a i3 F=>xP F rfl (fun w l=>xL F rfl) fun a F=>qN F rfl rfl N fun a F=>qF (s':=1) eE F rfl rfl N xK.f0 fun a p3 h3 F=>qlI isAgg2 F rfl rfl H.q h3 (fun a i4 F=>?_));obtain⟨z1,R,d⟩:=xB d;refine xP F rfl (fun w l=>rC F rfl rfl R) (fun a F=>?_);obtain⟨S,c2,d⟩:=xB d;refine fX F rfl call65 rfl (fun w w' h l=>l.through h) (fun w l=>bU S c2 w aA i3 (show xS (0) by decide) (kV R)) fun a F=>xP F rfl (fun w l=>lD F rfl) fun a F=>xP F rfl (fun w l=>xL F rfl) (fun a F=>?_)
    rcases vR (!S) with p | p
    ·
     replace d:=vX p d;have F:=F.eb 26 rfl p;refine qR F rfl rfl fun a F=>qR F rfl rfl fun a F=>qR F rfl rfl fun a F=>qR F rfl rfl fun a F=>qR F rfl rfl fun a F=>qR F rfl rfl fun a F=>qR F rfl rfl fun a F=>qR F rfl rfl fun a F=>qR F rfl rfl fun a F=>qR F rfl rfl fun a F=>qR F rfl rfl (fun a F=>?_);refine qR F rfl rfl fun a F=>xP F rfl (fun w l=>cD F rfl rfl) fun a F=>kZ fun w H=>xG ?_;exact⟨true,(zH d),F.su,H⟩
    replace d:=vW p d;have F:=F.eb 26 rfl p;refine xP F rfl (fun w l=>xL F rfl) fun a F=>xP F rfl (fun w l=>xL F rfl) fun a F=>qI underlying32 sizeOf35 F rfl rfl rfl A P fun a p4 h4 F=>qF (s':=1) pV F rfl rfl h4 xU.f1 fun a p5 h5 F=>qlI isAgg2 F rfl rfl H.q h5 fun a i5 F=>xP F rfl (fun w l=>xL F rfl) fun a F=>qN F rfl rfl M fun a F=>qF (s':=1) iD F rfl rfl M xH.f0 fun a p6 h6 F=>qlI isAgg2 F rfl rfl H.q h6 (fun a i6 F=>?_);obtain⟨z3,T,d⟩:=xB d;refine xP F rfl (fun w l=>rC F rfl rfl T) (fun a F=>?_);obtain⟨U,c4,d⟩:=xB d;refine fX F rfl call65 rfl (fun w w' h l=>l.through h) (fun w l=>bU U c4 w aA i5 (show xS (0) by decide) (kV T)) fun a F=>xP F rfl (fun w l=>lD F rfl) fun a F=>xP F rfl (fun w l=>cG F rfl rfl) fun a F=>kZ fun w H=>xG ?_;exact⟨(!U),(zH d),F.su,H⟩
   rintro a w ⟨E,rfl,F,H⟩
   have d:=xW Y;refine xG (qV F rfl (fun C=>?_) (fun C=>?_))
   ·
    replace d:=vX C d;refine xV (xA 1 F rfl fun a F=>xJ (xR (vT (oQ (oQ ?_)))));replace d:=kD d I;refine vT (oQ ?_);replace d:=zZ d G;refine oQ (xT F rfl (oE F rfl) ?_);obtain rfl:=oj d;exact⟨rfl,H.bl⟩
   replace d:=vW C d;refine xN (vH (xG (xY (xA 1 F rfl fun a F=>vP F rfl rfl rfl m1 fun a F=>xA 1 F rfl fun a F=>xJ ?_))));replace d:=vU d I;exact⟨_,Nat.lt_succ_self _,i+1,j,⟨e.1,e.2.2⟩,rfl,d,F.su,H⟩
 rintro a w ⟨rfl,F,H⟩
 have d:=xW G;refine xG (xV (xA 1 F rfl fun a F=>xJ (xR (xT F rfl (oE F rfl) ?_))));obtain rfl:=oj d;exact⟨rfl,H.bl⟩
def iV (c:Template) (d:Instance) (f:List Literal) (h:Int):Option Int:=
 xZ (eS c d h) fun e=>
 zR (σ:=Bool) (
  if (e==0) then  xZ (dE c d f) fun i=>
   some (.nx (!i)) else  some (.nx false)) fun j=>
 if j then
  some 2
 else
  some e
theorem uC {B:Nat→Prop} {y:Template} {A:Instance} {C:List Literal} {h:Int} (r:Int) (d:iV y A C h=some r) {j:Value} {n:Value} {p:Value} (e:World) (N:∀ c,B c→c<e.heap.size) (D:Bo B e (Pt 2 xH) j y) (E:Bo B e (Pt 2 xK) n A) (O:Bo B e (Sl 2 xU) p C) (I:xS h):Calls Tryz.prog 75 #[j,n,p,xC h] e (fS r e):=by
 unfold iV at d
 refine xX (L:=[(0,j),(1,n),(2,p),(3,xC h)]) func75 rfl rfl rfl (sc rfl (sc rfl (sc rfl (sc rfl sn)))) (fun a F=>?_);have H:=Sep.start N;refine xV (xA 1 F rfl fun a F=>vG (xA 3 F rfl fun a F=>?_));obtain⟨t,P,d⟩:=xB d;refine oKI F rfl call52 rfl H (nE t P _ aA (H.a D) (H.a E) I) fun a w H J F=>xA 1 F rfl fun a F=>xJ (xF (xF ?_));obtain⟨K,d,M⟩:=xM d;refine oH (fun a w=>∃ (x:Bool),K= .nx x∧Sk a 24 [(9,xC t),(22,.bool x)]∧Sep [] B e w []) ?_ ?_
 ·
  refine xY (xA 3 F rfl fun a F=>?_)
  rcases vR (t==0) with f | f
  ·
   replace d:=vX f d;have F:=F.eb 16 rfl f;refine xA 3 F rfl fun a F=>?_;obtain⟨G,Q,d⟩:=xB d;refine oK F rfl call108 rfl H (sT G Q _ aA (H.a D) (H.a E) (H.a O)) fun a w H F=>xA 2 F rfl fun a F=>xJ ?_;exact⟨(!G),(zH d),F.su,H⟩
  replace d:=vW f d;have F:=F.eb 16 rfl f;refine xA 6 F rfl fun a F=>xJ ?_;exact⟨false,(zH d),F.su,H⟩
 rintro a w ⟨x,rfl,F,H⟩
 have d:=xW M;refine xG (qV F rfl (fun i=>?_) (fun i=>?_))
 ·
  replace d:=vX i d;refine xY (xA 1 F rfl fun a F=>vG (xA 2 F rfl fun a F=>xJ (xR ?_)));refine xT F rfl (oE F rfl) ?_;obtain rfl:=oj d;exact⟨⟨rfl,H.bl⟩,(show xS (2) by decide)⟩
 replace d:=vW i d;refine xN (xG (xV (xA 2 F rfl fun a F=>xJ (xR (xT F rfl (oE F rfl) ?_)))));obtain rfl:=oj d;exact⟨⟨rfl,H.bl⟩,J⟩
def aL (c:Int):Option (List Int):=
 zR (σ:=(List Int)) (
  aS (σ:=(List Int)) (ρ:=(List Int)) (fun (d:Nat) (e:(List Int))=>
   xZ (ap e ([(d:Int)])) fun f=>
   some (.go f)) c.toNat 0 []) fun h=>
 some h
theorem pB {B:Nat→Prop} {e:Int} (r:(List Int)) (d:aL e=some r)  (h:World) (M:∀ c,B c→c<h.heap.size) (A:xS e):Calls Tryz.prog 55 #[xC e] h (Gv (fun v w'=>∃ (C:Value),v=C∧Sep [] B h w' [rl 1 xI 2 C r])):=by
 unfold aL at d
 refine xX (L:=[(0,xC e)]) func55 rfl rfl rfl (sc rfl sn) (fun a F=>?_);have H:=Sep.start M;refine xV (xA 1 F rfl fun a F=>vG (oR0 (R:=xI) underlying41 sizeOf2 F rfl H fun a w N H F=>xA 1 F rfl fun a F=>xJ ?_));refine xF (xV (xA 1 F rfl fun a F=>xJ ?_));obtain⟨D,d,G⟩:=xM d;refine oH (fun a w=>∃ (t:List Int) (j:Value),D= .nx t∧Sk a 16 [(3,j)]∧Sep [] B h w [rl 1 xI 2 j t]) ?_ ?_
 ·
  refine oJ ?_;obtain⟨I,J,d⟩:=dP d;refine qK (fun g a w=>∃ (f:Nat) (n:List Int) (p:Value),f+g=e.toNat∧aS I g f n=some D∧Sk a 16 [(4,xC (f:Int)),(0,xC e),(3,p)]∧Sep [] B h w [rl 1 xI 2 p n]) e.toNat ?_ ?_
  ·
   exact⟨0,[],N,(Nat.zero_add _),d,F.su,H⟩
  intro E a w ⟨f,n,p,i,d,F,H⟩
  cases E with
  | zero=>
   replace d:=cC d;have x:=gH i;refine xF (xV (xA 3 F rfl fun a F=>xJ (zD F rfl x (qJ (qM ?_)))));refine qM (zQ (xG ?_));exact⟨n,p,(zH d),F.su,H⟩
  | succ E=>
   obtain⟨U,d,K⟩:=cI d;rw[J] at d;have x:=eR i;refine xF (xV (xA 3 F rfl fun a F=>xJ (zC F rfl x (xN (xG ?_)))));refine xF ?_;have O:=uA i A;have P:=jB i A;refine oJ (xY (xA 2 F rfl fun a F=>cM (R:=xI) (y:=(f:Int)) underlying41 sizeOf2 zeroValue2 rfl rfl F rfl rfl H (Eo.int O) (fun a w V H F=>?_)));obtain⟨Q,S,d⟩:=xB d;refine oPL (sz:=1) (R:=xI) (z:=(xC 0)) (bytes:=8) underlying41 (by kernel_rfl) rfl rfl F rfl rfl rfl (H.s [1,0] rfl rfl) S fun a w T H F=>xA 1 F rfl fun a F=>qU (vH (xG (xY (xA 1 F rfl fun a F=>vP F rfl rfl rfl P fun a F=>xA 1 F rfl fun a F=>xJ ?_))));replace d:=vU d K;exact⟨_,Nat.lt_succ_self _,f+1,Q,T,(by omega),d,F.su,H⟩
 rintro a w ⟨t,j,rfl,F,H⟩
 have d:=xW G;refine xG (xV (xA 2 F rfl fun a F=>xJ (xR (xT F rfl (oE F rfl) ?_))));obtain rfl:=oj d;exact⟨_,rfl,j,rfl,H⟩
def aQ (c:Template) (d:Instance):Option (List (List Int)):=
 zR (σ:=(List (List Int))) (
  aS (σ:=(List (List Int))) (ρ:=(List (List Int))) (fun(j:Nat) (e:(List (List Int)))=>
   xZ (aL c.size) fun f=>
   xZ (ap e ([f])) fun h=>
   some (.go h)) d.vars.toNat 0 []) fun i=>
 some i
theorem lT {B:Nat→Prop} {G:Template} {i:Instance} (r:(List (List Int))) (d:aQ G i=some r) {j:Value} {n:Value} (e:World) (U:∀ c,B c→c<e.heap.size) (I:Bo B e (Pt 2 xH) j G) (p:Bo B e (Pt 2 xK) n i):Calls Tryz.prog 54 #[j,n] e (Gv (fun v w'=>∃ (E:Value),v=E∧Sep [] B e w' [rl 1 (vQ 1 xI) 41 E r])):=by
 unfold aQ at d
 refine xX (L:=[(0,j),(1,n)]) func54 rfl rfl rfl (sc rfl (sc rfl sn)) (fun a F=>?_);have H:=Sep.start U;refine xV (xA 1 F rfl fun a F=>vG (oR0 (R:=(vQ 1 xI)) underlying38 sizeOf41 F rfl H fun a w V H F=>xA 1 F rfl fun a F=>xJ ?_));refine xF (xV (xA 1 F rfl fun a F=>xJ ?_));obtain⟨J,d,O⟩:=xM d;refine oH (fun a w=>∃ (C:List (List Int)) (t:Value),J= .nx C∧Sk a 25 [(5,t)]∧Sep [] B e w [rl 1 (vQ 1 xI) 41 t C]) ?_ ?_
 ·
  refine oJ ?_;obtain⟨P,Q,d⟩:=dP d;refine qK (fun g a w=>∃ (f:Nat) (x:List (List Int)) (A:Value),f+g=i.vars.toNat∧aS P g f x=some J∧Sk a 25 [(6,xC (f:Int)),(0,j),(1,n),(5,A)]∧Sep [] B e w [rl 1 (vQ 1 xI) 41 A x]) i.vars.toNat ?_ ?_
  ·
   exact⟨0,[],V,(Nat.zero_add _),d,F.su,H⟩
  intro K a w ⟨f,x,A,h,d,F,H⟩
  cases K with
  | zero=>
   replace d:=cC d;have D:=gH h;refine xF (xV (xA 2 F rfl fun a F=>oN F rfl rfl p fun a F=>oF (s':=1) eE F rfl rfl p xK.f0 fun a p1 W F=>olI isAgg2 F rfl rfl H.sm W fun a i1 F=>xA 1 F rfl fun a F=>xJ ?_));refine zD F rfl D (qJ (qM (qM (zQ (xG ?_)))));exact⟨x,A,(zH d),F.su,H⟩
  | succ K=>
   obtain⟨a7,d,T⟩:=cI d;rw[Q] at d;have D:=eR h;refine xF (xV (xA 2 F rfl fun a F=>oN F rfl rfl p fun a F=>oF (s':=1) eE F rfl rfl p xK.f0 fun a p2 X F=>olI isAgg2 F rfl rfl H.sm X fun a M F=>xA 1 F rfl fun a F=>xJ ?_));refine zC F rfl D (xN (xG (xF ?_)));have j1:=uA h M;have Y:=jB h M;refine oJ (xY (xA 2 F rfl fun a F=>oN F rfl rfl I fun a F=>oF (s':=1) iD F rfl rfl I xH.f0 fun a p3 Z F=>olI isAgg2 F rfl rfl H.sm Z (fun a i3 F=>?_)));obtain⟨N,c1,d⟩:=xB d;refine oG F rfl call55 rfl (pB N c1 _ aA i3) (fun a vv w ⟨v5,a6,S⟩ F=>?_);subst vv;have H:=H.r1 S n0;have H:=H.os;refine eZ (R:=(vQ 1 xI)) (y:=N) underlying38 sizeOf41 zeroValue41 rfl rfl F rfl rfl H El.sl (fun a w v6 H F=>?_);obtain⟨z2,c2,d⟩:=xB d;refine oPL (sz:=1) (R:=(vQ 1 xI)) (z:=(qD)) (bytes:=24) underlying38 (by kernel_rfl) rfl rfl F rfl rfl rfl (H.s [1,0] rfl rfl) c2 fun a w v7 H F=>xA 1 F rfl fun a F=>qU (vH (xG (xY (xA 1 F rfl fun a F=>vP F rfl rfl rfl Y fun a F=>xA 1 F rfl fun a F=>xJ ?_))));replace d:=vU d T;exact⟨_,Nat.lt_succ_self _,f+1,z2,v7,(by omega),d,F.su,H⟩
 rintro a w ⟨C,t,rfl,F,H⟩
 have d:=xW O;refine xG (xV (xA 2 F rfl fun a F=>xJ (xR (xT F rfl (oE F rfl) ?_))));obtain rfl:=oj d;exact⟨_,rfl,t,rfl,H⟩
def dA (c:List Int) (d:Int):Option Bool:=
 zR (σ:=Unit) (
  qT (σ:=Unit) (ρ:=Bool) (fun (f:Nat) (e:Int) (s:Unit)=>
    match s with
    | _=>
    if (e==d) then
     some (.ret true)
    else
     some (.go ())) c 0 ()) fun _=>
 some false
theorem sD {B:Nat→Prop} {h:List Int} {n:Int} (r:Bool) (d:dA h n=some r) {p:Value} (i:World) (K:∀ c,B c→c<i.heap.size) (x:Bo B i (Sl 1 xI) p h) (Q:xS n):Calls Tryz.prog 76 #[p,xC n] i (kL (.bool r) i):=by
 unfold dA at d
 refine xX (L:=[(0,p),(1,xC n)]) func76 rfl rfl rfl (sc rfl (sc rfl sn)) (fun a F=>?_);have H:=Sep.start K;refine xV (xA 1 F rfl fun a F=>xJ (xF (xV (xA 1 F rfl fun a F=>xJ ?_))));obtain⟨D,d,A⟩:=xM d;refine oH (fun a w=>D= .nx ()∧Sk a 18 []∧Sep [] B i w []) ?_ ?_
 ·
  refine oJ ?_;obtain⟨G,I,d⟩:=qP d;refine qK (fun g a w=>∃ (j:Nat) (f:List Int),(j≤h.length∧h.drop j=f)∧f.length=g∧qT G f j ()=some D∧Sk a 18 [(5,xC (j:Int)),(0,p),(1,xC n)]∧Sep [] B i w []) h.length ?_ ?_
  ·
   exact⟨0,h,⟨Nat.zero_le _,rfl⟩,rfl,d,F.su,H⟩
  intro T a w ⟨j,f,e,J,d,F,H⟩
  cases f with
  | nil=>
   replace d:=qO d;have M:=qQ e.1 e.2;have y:=vS M;refine xF (xV (xA 2 F rfl fun a F=>oL underlying41 F rfl rfl x fun a U F=>xA 1 F rfl fun a F=>xJ (zD F rfl y (qJ ?_))));refine qM (qM (zQ (xG ?_)));exact⟨(zH d),F.sub sn,H⟩
  | cons V f=>
   subst J;replace e:=oZ e.2;have N:=qX e.2.1;obtain⟨R,d,C⟩:=qG d;rw[I] at d;have y:=vE e.1;refine xF (xV (xA 2 F rfl fun a F=>oL underlying41 F rfl rfl x fun a E F=>xA 1 F rfl fun a F=>xJ (zC F rfl y (xN ?_))));refine xG (xF ?_);have W:=gP (Nat.le_of_lt e.1) E;have O:=zU e.1 E;refine oJ (xV (xA 2 F rfl fun a F=>oI underlying41 sizeOf2 F rfl rfl rfl x N fun a X P F=>olI isAgg2 F rfl rfl H.sm P fun a S F=>xA 2 F rfl fun a F=>xJ ?_));refine qV F rfl (fun t=>?_) (fun t=>?_)
   ·
    replace d:=vX t d;refine xV (xA 1 F rfl fun a F=>xJ (xR (vT (oQ (oQ ?_)))));replace d:=kD d C;refine vT (oQ ?_);replace d:=zZ d A;refine oQ (xT F rfl (oE F rfl) ?_);obtain rfl:=oj d;exact⟨rfl,H.bl⟩
   replace d:=vW t d;refine xN (vH (xG (xY (xA 1 F rfl fun a F=>vP F rfl rfl rfl O fun a F=>xA 1 F rfl fun a F=>xJ ?_))));replace d:=vU d C;exact⟨_,Nat.lt_succ_self _,j+1,f,⟨e.1,e.2.2⟩,rfl,d,F.su,H⟩
 rintro a w ⟨rfl,F,H⟩
 have d:=xW A;refine xG (xV (xA 1 F rfl fun a F=>xJ (xR (xT F rfl (oE F rfl) ?_))));obtain rfl:=oj d;exact⟨rfl,H.bl⟩
def fO (c:Con) (d:List Int):Option Bool:=
 zR (σ:=Unit) (
  qT (σ:=Unit) (ρ:=Bool) (fun (e:Nat) (h:Int) (s:Unit)=>
    match s with
    | _=>
    zR (σ:=Unit) (
     aS (σ:=Unit) (ρ:=(Ctl (Unit) Bool)) (fun (f:Nat) (s:Unit)=>
       match s with
       | _=>
       zR (σ:=Bool) (
        xZ (ix c.scope (e:Int)) fun i=>
        xZ (ix c.scope (f:Int)) fun j=>
        if (i==j) then  xZ (ix d (f:Int)) fun n=>
         some (.nx (h != n)) else  some (.nx false)) fun p=>
       if p then
        some (.ret (.ret false))
       else
        some (.go ())) (e:Int).toNat 0 ()) fun _=>
    some (.go ())) d 0 ()) fun _=>
 some true
theorem wE {B:Nat→Prop} {O:Con} {p:List Int} (r:Bool) (d:fO O p=some r) {i:Value} {j:Value} (h:World) (hN:∀ c,B c→c<h.heap.size) (A:Bo B h (Pt 2 oR) i O) (C:Bo B h (Sl 1 xI) j p):Calls Tryz.prog 167 #[i,j] h (kL (.bool r) h):=by
 unfold fO at d
 refine xX (L:=[(0,i),(1,j)]) func167 rfl rfl rfl (sc rfl (sc rfl sn)) (fun a F=>?_);have H:=Sep.start hN;refine xV (xA 1 F rfl fun a F=>xJ (xF (xV (xA 1 F rfl fun a F=>xJ ?_))));obtain⟨P,d,J⟩:=xM d;refine oH (fun a w=>P= .nx ()∧Sk a 44 []∧Sep [] B h w []) ?_ ?_
 ·
  refine oJ ?_;obtain⟨U,V,d⟩:=qP d;refine qK (fun g a w=>∃ (e:Nat) (n:List Int),(e≤p.length∧p.drop e=n)∧n.length=g∧qT U n e ()=some P∧Sk a 44 [(5,xC (e:Int)),(0,i),(1,j)]∧Sep [] B h w []) p.length ?_ ?_
  ·
   exact⟨0,p,⟨Nat.zero_le _,rfl⟩,rfl,d,F.su,H⟩
  intro g1 a w ⟨e,n,f,W,d,F,H⟩
  cases n with
  | nil=>
   replace d:=qO d;have q1:=qQ f.1 f.2;have E:=vS q1;refine xF (xV (xA 2 F rfl fun a F=>oL underlying41 F rfl rfl C fun a i1 F=>xA 1 F rfl fun a F=>xJ (zD F rfl E (qJ ?_))));refine qM (qM (zQ (xG ?_)));exact⟨(zH d),F.sub sn,H⟩
  | cons x2 n=>
   subst W;replace f:=oZ f.2;have y1:=qX f.2.1;obtain⟨al,d,K⟩:=qG d;rw[V] at d;have E:=vE f.1;refine xF (xV (xA 2 F rfl fun a F=>oL underlying41 F rfl rfl C fun a Q F=>xA 1 F rfl fun a F=>xJ (zC F rfl E (xN ?_))));refine xG (xF ?_);have R:=gP (Nat.le_of_lt f.1) Q;have m1:=zU f.1 Q;refine oJ (xV (xA 1 F rfl fun a F=>xJ ?_));obtain⟨S,d,M⟩:=xM d;refine oH (fun a w=>S= .nx ()∧Sk a 44 [(0,i),(1,j),(5,xC (e:Int))]∧Sep [] B h w []) ?_ ?_
   ·
    refine oJ ?_;obtain⟨X,Y,d⟩:=dP d;refine qK (fun g a w=>∃ (t:Nat),t+g=(e:Int).toNat∧aS X g t ()=some S∧Sk a 44 [(6,xC (t:Int)),(0,i),(1,j),(5,xC (e:Int))]∧Sep [] B h w []) (e:Int).toNat ?_ ?_
    ·
     exact⟨0,(Nat.zero_add _),d,F.su,H⟩
    intro T a w ⟨t,y,d,F,H⟩
    cases T with
    | zero=>
     replace d:=cC d;have G:=gH y;refine xF (xV (xA 3 F rfl fun a F=>xJ (zD F rfl G (qJ (qM ?_)))));refine qM (zQ (xG ?_));exact⟨(zH d),F.su,H⟩
    | succ T=>
     obtain⟨am,d,N⟩:=cI d;rw[Y] at d;have G:=eR y;refine xF (xV (xA 3 F rfl fun a F=>xJ (zC F rfl G (xN (xG ?_)))));refine xF ?_;have j2:=uA y R;have m2:=jB y R;refine oJ (xF ?_);obtain⟨o3,d,Z⟩:=xM d;refine oH (fun a w=>∃ (I:Bool),o3= .nx I∧Sk a 44 [(0,i),(1,j),(5,xC (e:Int)),(6,xC (t:Int)),(43,.bool I)]∧Sep [] B h w []) ?_ ?_
     ·
      refine xQ H (by kernel_rfl) (by kernel_rfl) (xP F rfl (fun w l=>xL F rfl) fun a F=>qN F rfl rfl A fun a F=>qF (s':=1) bM F rfl rfl A oR.f1 fun a p1 h1 F=>qlS isAgg41 F rfl rfl H.q h1 fun a v2 h2 F=>xP F rfl (fun w l=>xL F rfl) (fun a F=>?_));obtain⟨z1,c1,d⟩:=xB d;refine qI underlying41 sizeOf2 F rfl rfl rfl h2 c1 fun a p2 h3 F=>qlI isAgg2 F rfl rfl H.q h3 fun a i3 F=>xP F rfl (fun w l=>xL F rfl) fun a F=>qN F rfl rfl A fun a F=>qF (s':=1) bM F rfl rfl A oR.f1 fun a p3 h4 F=>qlS isAgg41 F rfl rfl H.q h4 fun a v3 h5 F=>xP F rfl (fun w l=>xL F rfl) (fun a F=>?_);obtain⟨z2,c2,d⟩:=xB d;refine qI underlying41 sizeOf2 F rfl rfl rfl h5 c2 fun a p4 h6 F=>qlI isAgg2 F rfl rfl H.q h6 fun a i4 F=>xP F rfl (fun w l=>tN F rfl rfl) fun a F=>xP F rfl (fun w l=>xL F rfl) (fun a F=>?_)
      rcases vR (z1==z2) with x | x
      ·
       replace d:=vX x d;have F:=F.eb 33 rfl x;refine xP F rfl (fun w l=>xL F rfl) fun a F=>xP F rfl (fun w l=>xL F rfl) fun a F=>qI underlying41 sizeOf2 F rfl rfl rfl C y1 fun a p5 h7 F=>qlI isAgg2 F rfl rfl H.q h7 fun a i5 F=>xP F rfl (fun w l=>xL F rfl) fun a F=>xP F rfl (fun w l=>xL F rfl) (fun a F=>?_);obtain⟨z3,c3,d⟩:=xB d;refine qI underlying41 sizeOf2 F rfl rfl rfl C c3 fun a p6 h8 F=>qlI isAgg2 F rfl rfl H.q h8 fun a i6 F=>xP F rfl (fun w l=>sC F rfl rfl) fun a F=>xP F rfl (fun w l=>cD F rfl rfl) fun a F=>kZ fun w H=>xG ?_;exact⟨(x2 != z3),(zH d),F.su,H⟩
      replace d:=vW x d;have F:=F.eb 33 rfl x;refine qR F rfl rfl fun a F=>qR F rfl rfl fun a F=>qR F rfl rfl fun a F=>qR F rfl rfl fun a F=>qR F rfl rfl fun a F=>qR F rfl rfl fun a F=>qR F rfl rfl fun a F=>qR F rfl rfl fun a F=>qR F rfl rfl fun a F=>xP F rfl (fun w l=>cG F rfl rfl) fun a F=>kZ (fun w H=>?_);refine xG ?_;exact⟨false,(zH d),F.su,H⟩
     rintro a w ⟨I,rfl,F,H⟩
     have d:=xW Z;refine xG (qV F rfl (fun D=>?_) (fun D=>?_))
     ·
      replace d:=vX D d;refine xV (xA 1 F rfl fun a F=>xJ (xR (vT (oQ (oQ ?_)))));replace d:=kD d N;refine vT (oQ ?_);replace d:=zZ d M;refine vT (oQ (oQ ?_));replace d:=kD d K;refine vT (oQ ?_);replace d:=zZ d J;refine oQ (xT F rfl (oE F rfl) ?_);obtain rfl:=oj d;exact⟨rfl,H.bl⟩
     replace d:=vW D d;refine xN (vH (xG (xY (xA 1 F rfl fun a F=>vP F rfl rfl rfl m2 fun a F=>xA 1 F rfl fun a F=>xJ ?_))));replace d:=vU d N;exact⟨_,Nat.lt_succ_self _,t+1,(by omega),d,F.su,H⟩
   rintro a w ⟨rfl,F,H⟩
   have d:=xW M;refine vH (xG (xY (xA 1 F rfl fun a F=>vP F rfl rfl rfl m1 fun a F=>xA 1 F rfl fun a F=>xJ ?_)));replace d:=vU d K;exact⟨_,Nat.lt_succ_self _,e+1,n,⟨f.1,f.2.2⟩,rfl,d,F.su,H⟩
 rintro a w ⟨rfl,F,H⟩
 have d:=xW J;refine xG (xV (xA 1 F rfl fun a F=>xJ (xR (xT F rfl (oE F rfl) ?_))));obtain rfl:=oj d;exact⟨rfl,H.bl⟩
def bE (N:Nat) (h:Template) (e:Con) (i:List (List Int)) (j n:Int):Option Bool:=
 xZ (ix h.rels e.rel) fun p=>
 zR (σ:=Unit) (
  qT (σ:=Unit) (ρ:=Bool) (fun (H:Nat) (d:(List Int)) (s:Unit)=>
    match s with
    | _=>
    zR (σ:=Bool) (
     xZ (ix d j) fun t=>
     if (t==n) then  xZ (fO e d) fun x=>
      some (.nx x) else  some (.nx false)) fun y=>
    zR (σ:=Bool×Int) (
     fA (σ:=Bool×Int) (ρ:=(Ctl (Unit) Bool)) (fun(s:Bool×Int)=>
       match s with
       | (f,c)=>
       zR (σ:=Bool) (
        if (decide (c<(d.length:Int))) then  some (.nx f) else  some (.nx false)) fun A=>
       if A then
        xZ (ix e.scope c) fun B=>
        xZ (ix i B) fun C=>
        xZ (ix d c) fun D=>
        xZ (dA C D) fun E=>
        xZ (ck (c+1)) fun F=>
        some (.go (E,F))
       else
        some (.brk (f,c))) N (y,0)) fun(G,I)=>
    if G then
     some (.ret true)
    else
     some (.go ())) p.tuples 0 ()) fun _=>
 some false
theorem tS {B:Nat→Prop} {N:Nat} {Z:Template} {x1:Con} {x2:List (List Int)} {n i:Int} (r:Bool) (d:bE N Z x1 x2 n i=some r) {Q:Value} {p:Value} {t:Value} (e:World) (hN:∀ c,B c→c<e.heap.size) (A0:Bo B e (Pt 2 xH) Q Z) (G:Bo B e (Pt 2 oR) p x1) (A2:Bo B e (Sl 1 (vQ 1 xI)) t x2) (bn:xS n) (bp:xS i):Calls Tryz.prog 148 #[Q,p,t,xC n,xC i] e (kL (.bool r) e):=by
 unfold bE at d
 refine xX (L:=[(0,Q),(1,p),(2,t),(3,xC n),(4,xC i)]) func148 rfl rfl rfl (sc rfl (sc rfl (sc rfl (sc rfl (sc rfl sn))))) (fun a F=>?_);have H:=Sep.start hN;refine xV (xA 1 F rfl fun a F=>xJ (xF (xQ H (by kernel_rfl) (by kernel_rfl) (xP F rfl (fun w l=>xL F rfl) fun a F=>qN F rfl rfl A0 fun a F=>qF (s':=1) kG F rfl rfl A0 xH.f1 fun a p1 h1 F=>qlS isAgg24 F rfl rfl H.q h1 (fun a v3 h2 F=>?_)))));refine xP F rfl (fun w l=>xL F rfl) fun a F=>qN F rfl rfl G fun a F=>qF (s':=1) lX F rfl rfl G oR.f0 fun a p2 a9 F=>qlI isAgg2 F rfl rfl H.q a9 (fun a i1 F=>?_);obtain⟨K,c1,d⟩:=xB d;refine qI underlying24 sizeOf66 F rfl rfl rfl h2 c1 fun a I A F=>xP F rfl (fun w l=>vK F rfl) fun a F=>kZ fun w H=>xG (xF (xV (xA 1 F rfl fun a F=>xJ ?_)));obtain⟨o1,d,W⟩:=xM d;refine oH (fun a w=>o1= .nx ()∧Sk a 77 []∧Sep [] B e w []) ?_ ?_
 ·
  refine oJ ?_;obtain⟨aa,ab,d⟩:=qP d;refine qK (fun g a w=>∃ (j:Nat) (x:List (List Int)),(j≤K.tuples.length∧K.tuples.drop j=x)∧x.length=g∧qT aa x j ()=some o1∧Sk a 77 [(12,xC (j:Int)),(1,p),(2,t),(3,xC n),(4,xC i),(11,I)]∧Sep [] B e w []) K.tuples.length ?_ ?_
  ·
   exact⟨0,K.tuples,⟨Nat.zero_le _,rfl⟩,rfl,d,F.su,H⟩
  intro g1 a w ⟨j,x,f,ac,d,F,H⟩
  cases x with
  | nil=>
   replace d:=qO d;have q1:=qQ f.1 f.2;have R:=vS q1;refine xF (xV (xA 2 F rfl fun a F=>oN F rfl rfl A fun a F=>oF (s':=1) bG F rfl rfl A oV.f1 fun a p4 h4 F=>olS isAgg38 F rfl rfl H.sm h4 fun a v4 h5 F=>oL underlying38 F rfl rfl h5 fun a i2 F=>xA 1 F rfl fun a F=>qU ?_));refine xG (zD F rfl R (qJ (qM (qM (zQ (xG ?_))))));exact⟨(zH d),F.sub sn,H⟩
  | cons x5 x=>
   subst ac;replace f:=oZ f.2;have y1:=qX f.2.1;obtain⟨bq,d,X⟩:=qG d;rw[ab] at d;have R:=vE f.1;refine xF (xV (xA 2 F rfl fun a F=>oN F rfl rfl A fun a F=>oF (s':=1) bG F rfl rfl A oV.f1 fun a p5 h6 F=>olS isAgg38 F rfl rfl H.sm h6 fun a v5 h7 F=>oL underlying38 F rfl rfl h7 fun a i3 F=>xA 1 F rfl fun a F=>qU ?_));refine xG (zC F rfl R (xN (xG (xF ?_))));have j1:=gP (Nat.le_of_lt f.1) i3;have m1:=zU f.1 i3;refine oJ (xV (xA 1 F rfl fun a F=>oN F rfl rfl A fun a F=>oF (s':=1) bG F rfl rfl A oV.f1 fun a p6 h8 F=>olS isAgg38 F rfl rfl H.sm h8 fun a v6 h9 F=>xA 1 F rfl fun a F=>oI underlying38 sizeOf41 F rfl rfl rfl h9 y1 fun a p7 ad F=>olS isAgg41 F rfl rfl H.sm ad fun a S J F=>xA 1 F rfl fun a F=>?_));refine xJ (xF ?_);obtain⟨o2,d,ae⟩:=xM d;refine oH (fun a w=>∃ (M:Bool),o2= .nx M∧Sk a 77 [(1,p),(2,t),(3,xC n),(4,xC i),(11,I),(12,xC (j:Int)),(13,S),(14,.bool M)]∧Sep [] B e w []) ?_ ?_
   ·
    refine xY (xA 2 F rfl fun a F=>?_);obtain⟨z2,c2,d⟩:=xB d;refine oI underlying41 sizeOf2 F rfl rfl rfl J c2 fun a p8 af F=>olI isAgg2 F rfl rfl H.sm af fun a i4 F=>xA 3 F rfl fun a F=>?_
    rcases vR (z2==i) with D | D
    ·
     replace d:=vX D d;have F:=F.eb 47 rfl D;refine xA 2 F rfl fun a F=>?_;obtain⟨z3,c3,d⟩:=xB d;refine oK F rfl call167 rfl H (wE z3 c3 _ aA (H.a G) (H.a J)) fun a w H F=>xA 2 F rfl fun a F=>xJ ?_;exact⟨z3,(zH d),F.su,H⟩
    replace d:=vW D d;have F:=F.eb 47 rfl D;refine xA 5 F rfl fun a F=>xJ ?_;exact⟨false,(zH d),F.su,H⟩
   rintro a w ⟨M,rfl,F,H⟩
   have d:=xW ae;refine xG (xF (xV (xA 1 F rfl fun a F=>xJ ?_)));obtain⟨o3,d,ag⟩:=xM d;refine oH (fun a w=>∃ (T:Bool) (U:Int),o3= .nx (T,U)∧Sk a 77 [(1,p),(2,t),(3,xC n),(4,xC i),(11,I),(12,xC (j:Int)),(14,.bool T)]∧Sep [] B e w []∧xS U) ?_ ?_
   ·
    refine oJ ?_;obtain⟨ah,ai,d⟩:=bJ d;refine qK (fun g a w=>∃ (C:Bool) (y:Int),fA ah g (C,y)=some o3∧Sk a 77 [(1,p),(2,t),(3,xC n),(4,xC i),(11,I),(12,xC (j:Int)),(13,S),(14,.bool C),(15,xC y)]∧Sep [] B e w []∧xS y) N ?_ ?_
    ·
     exact⟨M,0,d,F.su,H,(show xS (0) by decide)⟩
    intro g2 a w ⟨C,y,d,F,H,i5⟩;obtain⟨br,t2,bt,d,Y⟩:=kR d;rw[ai] at d;refine xF (xF ?_);obtain⟨o4,d,aj⟩:=xM d;refine oH (fun a w=>∃ (V:Bool),o4= .nx V∧Sk a 77 [(1,p),(2,t),(3,xC n),(4,xC i),(11,I),(12,xC (j:Int)),(13,S),(14,.bool C),(15,xC y),(58,.bool V)]∧Sep [] B e w []) ?_ ?_
    ·
     refine xY (xA 2 F rfl fun a F=>oL underlying41 F rfl rfl J fun a i6 F=>xA 2 F rfl fun a F=>?_)
     rcases vR (decide (y<(x5.length:Int))) with E | E
     ·
      replace d:=vX E d;have F:=F.eb 56 rfl E;refine xA 2 F rfl fun a F=>xJ ?_;exact⟨C,(zH d),F.su,H⟩
     replace d:=vW E d;have F:=F.eb 56 rfl E;refine xA 2 F rfl fun a F=>xJ ?_;exact⟨false,(zH d),F.su,H⟩
    rintro a w ⟨V,rfl,F,H⟩
    have d:=xW aj;refine xG (qV F rfl (fun O=>?_) (fun O=>?_))
    ·
     replace d:=vX O d;refine xN (xG (xF (oJ (xQ H (by kernel_rfl) (by kernel_rfl) (xP F rfl (fun w l=>xL F rfl) fun a F=>xP F rfl (fun w l=>xL F rfl) fun a F=>qN F rfl rfl G fun a F=>qF (s':=1) bM F rfl rfl G oR.f1 fun a p9 ak F=>qlS isAgg41 F rfl rfl H.q ak fun a v8 al F=>xP F rfl (fun w l=>xL F rfl) (fun a F=>?_))))));obtain⟨z4,c4,d⟩:=xB d;refine qI underlying41 sizeOf2 F rfl rfl rfl al c4 fun a bu am F=>qlI isAgg2 F rfl rfl H.q am (fun a i7 F=>?_);obtain⟨z5,c5,d⟩:=xB d;refine qI underlying38 sizeOf41 F rfl rfl rfl A2 c5 fun a bv an F=>qlS isAgg41 F rfl rfl H.q an fun a v9 ao F=>xP F rfl (fun w l=>xL F rfl) fun a F=>xP F rfl (fun w l=>xL F rfl) (fun a F=>?_);obtain⟨z6,c6,d⟩:=xB d;refine qI underlying41 sizeOf2 F rfl rfl rfl J c6 fun a bw aq F=>qlI isAgg2 F rfl rfl H.q aq (fun a i8 F=>?_);obtain⟨z7,c7,d⟩:=xB d;refine fX F rfl call76 rfl (fun w w' h l=>l.through h) (fun w l=>sD z7 c7 w aA ((H.go l).a ao) i8) fun a F=>xP F rfl (fun w l=>vK F rfl) fun a F=>kZ fun w H=>vH (xG (xY (xA 1 F rfl fun a F=>?_)));obtain⟨z8,c8,d⟩:=xB d;refine cX F rfl rfl rfl c8 fun a F=>xA 1 F rfl fun a F=>xJ ?_;replace d:=vU d Y;exact⟨t2,(by omega),z7,z8,d,F.su,H,(kV c8)⟩
    replace d:=vW O d;refine qJ (qM (qM ?_));replace d:=gV d Y;refine zQ (xG ?_);exact⟨C,y,(zH d),F.su,H,i5⟩
   rintro a w ⟨T,U,rfl,F,H,i9⟩
   have d:=xW ag;refine xG (xV (xA 1 F rfl fun a F=>xJ (qV F rfl (fun P=>?_) (fun P=>?_))))
   ·
    replace d:=vX P d;refine xV (xA 1 F rfl fun a F=>xJ (xR (vT (oQ (oQ ?_)))));replace d:=kD d X;refine vT (oQ ?_);replace d:=zZ d W;refine oQ (xT F rfl (oE F rfl) ?_);obtain rfl:=oj d;exact⟨rfl,H.bl⟩
   replace d:=vW P d;refine xN (vH (xG (xY (xA 1 F rfl fun a F=>vP F rfl rfl rfl m1 fun a F=>xA 1 F rfl fun a F=>xJ ?_))));replace d:=vU d X;exact⟨_,Nat.lt_succ_self _,j+1,x,⟨f.1,f.2.2⟩,rfl,d,F.su,H⟩
 rintro a w ⟨rfl,F,H⟩
 have d:=xW W;refine xG (xV (xA 1 F rfl fun a F=>xJ (xR (xT F rfl (oE F rfl) ?_))));obtain rfl:=oj d;exact⟨rfl,H.bl⟩
def aN (e:List Int) (f:Int):Option (List Int):=
 zR (σ:=(List Int)) (
  qT (σ:=(List Int)) (ρ:=(List Int)) (fun (j:Nat) (c:Int) (d:(List Int))=>
   if (c != f) then
    xZ (ap d ([c])) fun h=>
    some (.go h)
   else
    some (.go d)) e 0 []) fun i=>
 some i
theorem mN {B:Nat→Prop} {i:List Int} {n:Int} (r:(List Int)) (d:aN i n=some r) {x:Value} (j:World) (U:∀ c,B c→c<j.heap.size) (A:Bo B j (Sl 1 xI) x i) (a4:xS n):Calls Tryz.prog 129 #[x,xC n] j (Gv (fun v w'=>∃ (I:Value),v=I∧Sep [] B j w' [rl 1 xI 2 I r])):=by
 unfold aN at d
 refine xX (L:=[(0,x),(1,xC n)]) func129 rfl rfl rfl (sc rfl (sc rfl sn)) (fun a F=>?_);have H:=Sep.start U;refine xV (xA 1 F rfl fun a F=>vG (oR0 (R:=xI) underlying41 sizeOf2 F rfl H fun a w V H F=>xA 1 F rfl fun a F=>xJ ?_));refine xF (xV (xA 1 F rfl fun a F=>xJ ?_));obtain⟨K,d,P⟩:=xM d;refine oH (fun a w=>∃ (E:List Int) (C:Value),K= .nx E∧Sk a 28 [(5,C)]∧Sep [] B j w [rl 1 xI 2 C E]) ?_ ?_
 ·
  refine oJ ?_;obtain⟨Q,S,d⟩:=qP d;refine qK (fun g a w=>∃ (h:Nat) (f p:List Int) (t:Value),(h≤i.length∧i.drop h=f)∧f.length=g∧qT Q f h p=some K∧Sk a 28 [(6,xC (h:Int)),(0,x),(1,xC n),(5,t)]∧Sep [] B j w [rl 1 xI 2 t p]) i.length ?_ ?_
  ·
   exact⟨0,i,[],V,⟨Nat.zero_le _,rfl⟩,rfl,d,F.su,H⟩
  intro g1 a w ⟨h,f,p,t,e,T,d,F,H⟩
  cases f with
  | nil=>
   replace d:=qO d;have W:=qQ e.1 e.2;have G:=vS W;refine xF (xV (xA 2 F rfl fun a F=>oL underlying41 F rfl rfl A fun a i1 F=>xA 1 F rfl fun a F=>xJ (zD F rfl G (qJ ?_))));refine qM (qM (zQ (xG ?_)));exact⟨p,t,(zH d),F.su,H⟩
  | cons X f=>
   subst T;replace e:=oZ e.2;have M:=qX e.2.1;obtain⟨a5,d,J⟩:=qG d;rw[S] at d;have G:=vE e.1;refine xF (xV (xA 2 F rfl fun a F=>oL underlying41 F rfl rfl A fun a N F=>xA 1 F rfl fun a F=>xJ (zC F rfl G (xN ?_))));refine xG (xF ?_);have j1:=gP (Nat.le_of_lt e.1) N;have O:=zU e.1 N;refine oJ (xV (xA 2 F rfl fun a F=>oI underlying41 sizeOf2 F rfl rfl rfl A M fun a p1 Y F=>olI isAgg2 F rfl rfl H.sm Y fun a i3 F=>xA 2 F rfl fun a F=>xJ ?_));refine qV F rfl (fun D=>?_) (fun D=>?_)
   ·
    replace d:=vX D d;refine xY (xA 3 F rfl fun a F=>oI underlying41 sizeOf2 F rfl rfl rfl A M fun a p2 Z F=>olI isAgg2 F rfl rfl H.sm Z fun a i4 F=>cM (R:=xI) (y:=X) underlying41 sizeOf2 zeroValue2 rfl rfl F rfl rfl H (Eo.int i4) (fun a w v4 H F=>?_));obtain⟨z1,c1,d⟩:=xB d;refine oPL (sz:=1) (R:=xI) (z:=(xC 0)) (bytes:=8) underlying41 (by kernel_rfl) rfl rfl F rfl rfl rfl (H.s [1,0] rfl rfl) c1 fun a w v5 H F=>xA 1 F rfl fun a F=>qU (vH (xG (xY (xA 1 F rfl fun a F=>vP F rfl rfl rfl O fun a F=>xA 1 F rfl fun a F=>xJ ?_))));replace d:=vU d J;exact⟨_,Nat.lt_succ_self _,h+1,f,z1,v5,⟨e.1,e.2.2⟩,rfl,d,F.su,H⟩
   replace d:=vW D d;refine xN (vH (xG (xY (xA 1 F rfl fun a F=>vP F rfl rfl rfl O fun a F=>xA 1 F rfl fun a F=>xJ ?_))));replace d:=vU d J;exact⟨_,Nat.lt_succ_self _,h+1,f,p,t,⟨e.1,e.2.2⟩,rfl,d,F.su,H⟩
 rintro a w ⟨E,C,rfl,F,H⟩
 have d:=xW P;refine xG (xV (xA 2 F rfl fun a F=>xJ (xR (xT F rfl (oE F rfl) ?_))));obtain rfl:=oj d;exact⟨_,rfl,C,rfl,H⟩
def aH (N:Nat) (L:Template) (M:Instance) (e:List (List Int)) (t:Bool):Option ((List ArcStep)×(List (List Int))):=
 zR (σ:=Int) (
  fA (σ:=Int) (ρ:=(List ArcStep)×(List (List Int))) (fun(f:Int)=>
   zR (σ:=Bool) (
    if (decide (f<(e.length:Int))) then  some (.nx t) else  some (.nx false)) fun O=>
   if O then
    xZ (ix e f) fun P=>
    if ((P.length:Int)==0) then
     some (.ret ([],e))
    else
     xZ (ck (f+1)) fun Q=>
     some (.go Q)
   else
    some (.brk f)) N 0) fun s3=>
 zR (σ:=(List ArcStep)×Int×(List (List Int))) (
  fA (σ:=(List ArcStep)×Int×(List (List Int))) (ρ:=(List ArcStep)×(List (List Int))) (fun(s:(List ArcStep)×Int×(List (List Int)))=>
    match s with
    | (h,x,y)=>
    if (x != (h.length:Int)) then
     zR (σ:=(List ArcStep)×(List (List Int))) (
      qT (σ:=(List ArcStep)×(List (List Int))) (ρ:=(Ctl ((List ArcStep)×Int×(List (List Int))) ((List ArcStep)×(List (List Int))))) (fun (R:Nat) (A:Con) (s:(List ArcStep)×(List (List Int)))=>
        match s with
        | (S,T)=>
        zR (σ:=(List ArcStep)×(List (List Int))) (
         qT (σ:=(List ArcStep)×(List (List Int))) (ρ:=(Ctl ((List ArcStep)×(List (List Int))) (Ctl ((List ArcStep)×Int×(List (List Int))) ((List ArcStep)×(List (List Int)))))) (fun (U:Nat) (c:Int) (s:(List ArcStep)×(List (List Int)))=>
           match s with
           | (V,n)=>
           xZ (ix n c) fun W=>
           xZ (cV W) fun X=>
           zR (σ:=(List ArcStep)×(List (List Int))) (
            qT (σ:=(List ArcStep)×(List (List Int))) (ρ:=(Ctl ((List ArcStep)×(List (List Int))) (Ctl ((List ArcStep)×(List (List Int))) (Ctl ((List ArcStep)×Int×(List (List Int))) ((List ArcStep)×(List (List Int))))))) (fun (k3:Nat) (i:Int) (s:(List ArcStep)×(List (List Int)))=>
              match s with
              | (p,d)=>
              xZ (bE N L A d (U:Int) i) fun Y=>
              if (!Y) then
               xZ (ix d c) fun Z=>
               xZ (aN Z i) fun j=>
               xZ (ap p ([(ArcStep.mk c i (R:Int))])) fun B=>
               zR (σ:=Bool) (
                if t then  xZ (ix (d.set (c).toNat j) c) fun z9=>
                 some (.nx ((z9.length:Int)==0)) else  some (.nx false)) fun C=>
               if C then
                some (.ret (.ret (.ret (.ret (B,(d.set (c).toNat j))))))
               else
                some (.go (B,(d.set (c).toNat j)))
              else
               some (.go (p,d))) X 0 (V,n)) fun(D,E)=>
           some (.go (D,E))) A.scope 0 (S,T)) fun(F,G)=>
        some (.go (F,G))) M.cons 0 (h,y)) fun(H,I)=>
     some (.go (H,(h.length:Int),I))
    else
     some (.brk (h,x,y))) N ([],(-1),e)) fun(J,a1,K)=>
 some (J,K)
theorem rV {B:Nat→Prop} {N:Nat} {x0:Template} {V:Instance} {O:List (List Int)} {i:Bool} (r:(List ArcStep)×(List (List Int))) (d:aH N x0 V O i=some r) {j:Value} {n:Value} {f:Value} {p:List Nat} (h:World) (hN:∀ c,B c→c<h.heap.size) (S0:Sep p B h h [rw N0 1 (vQ 1 xI) 41 f O]) (A0:Bo B h (Pt 2 xH) j x0) (W:Bo B h (Pt 2 xK) n V):Calls Tryz.prog 125 #[j,n,f,.bool i] h (Gv (fun v w'=>∃ (be:Value),v=be∧Sep p B h w' [rl 3 qH 173 be r.1,rw N0 1 (vQ 1 xI) 41 f r.2])):=by
 unfold aH at d
 refine xX (L:=[(0,j),(1,n),(2,f),(3,.bool i)]) func125 rfl rfl rfl (sc rfl (sc rfl (sc rfl (sc rfl sn)))) (fun a F=>?_);have H:=S0;refine xV (xA 1 F rfl fun a F=>vG (oR0 (R:=qH) underlying170 sizeOf173 F rfl H fun a w I H F=>xA 1 F rfl fun a F=>xJ ?_));refine xF (xV (xA 1 F rfl fun a F=>xJ ?_));obtain⟨o1,d,bf⟩:=xM d;refine oH (fun a w=>∃ (s1:Int),o1= .nx s1∧Sk a 126 [(0,j),(1,n),(2,f),(3,.bool i),(9,I)]∧Sep p B h w [rl 3 qH 173 I ([]),rw N0 1 (vQ 1 xI) 41 f O]∧xS s1) ?_ ?_
 ·
  refine oJ ?_;obtain⟨fl1,hf1,d⟩:=bJ d;refine qK (fun g a w=>∃ (P:Int),fA fl1 g P=some o1∧Sk a 126 [(0,j),(1,n),(2,f),(3,.bool i),(9,I),(10,xC P)]∧Sep p B h w [rl 3 qH 173 I ([]),rw N0 1 (vQ 1 xI) 41 f O]∧xS P) N ?_ ?_
  ·
   exact⟨0,d,F.su,H,(show xS (0) by decide)⟩
  intro g1 a w ⟨P,d,F,H,i1⟩;obtain⟨el,t1,em,d,aq⟩:=kR d;rw[hf1] at d;refine xF (xF ?_);obtain⟨o2,d,hk2⟩:=xM d;refine oH (fun a w=>∃ (s3:Bool),o2= .nx s3∧Sk a 126 [(0,j),(1,n),(2,f),(3,.bool i),(9,I),(10,xC P),(25,.bool s3)]∧Sep p B h w [rl 3 qH 173 I ([]),rw N0 1 (vQ 1 xI) 41 f O]) ?_ ?_
  ·
   refine xY (xA 2 F rfl fun a F=>oL underlying38 F rfl rfl (H.r 1 rfl) fun a i2 F=>xA 2 F rfl fun a F=>?_)
   rcases vR (decide (P<(O.length:Int))) with Y | Y
   ·
    replace d:=vX Y d;have F:=F.eb 23 rfl Y;refine xA 2 F rfl fun a F=>xJ ?_;exact⟨i,(zH d),F.su,H⟩
   replace d:=vW Y d;have F:=F.eb 23 rfl Y;refine xA 2 F rfl fun a F=>xJ ?_;exact⟨false,(zH d),F.su,H⟩
  rintro a w ⟨s3,rfl,F,H⟩
  have d:=xW hk2;refine xG (qV F rfl (fun ar=>?_) (fun ar=>?_))
  ·
   replace d:=vX ar d;refine xN (xG (xF (oJ (xV (xA 2 F rfl fun a F=>?_)))));obtain⟨z1,c1,d⟩:=xB d;refine oI underlying38 sizeOf41 F rfl rfl rfl (H.r 1 rfl) c1 fun a p1 h1 F=>olS isAgg41 F rfl rfl (Sm.refl _ _) h1 fun a v4 ca F=>oL underlying41 F rfl rfl ca fun a i3 F=>xA 1 F rfl fun a F=>xJ (qV F rfl (fun au=>?_) (fun au=>?_))
   ·
    replace d:=vX au d;refine xV (xA 2 F rfl fun a F=>xJ (xR (vT (oQ (oQ ?_)))));replace d:=kD d aq;refine vT (oQ ?_);replace d:=zZ d bf;refine oQ (xT F rfl (oE F rfl) ?_);obtain rfl:=oj d;exact⟨_,rfl,I,rfl,H⟩
   replace d:=vW au d;refine xN (vH (xG (xY (xA 1 F rfl fun a F=>?_))));obtain⟨z2,c2,d⟩:=xB d;refine cX F rfl rfl rfl c2 fun a F=>xA 1 F rfl fun a F=>xJ ?_;replace d:=vU d aq;exact⟨t1,(by omega),z2,d,F.su,H,(kV c2)⟩
  replace d:=vW ar d;refine qJ (qM (qM ?_));replace d:=gV d aq;refine zQ (xG ?_);exact⟨P,(zH d),F.su,H,i1⟩
 rintro a w ⟨s1,rfl,F,H,i4⟩
 have d:=xW bf;refine xG (xF (xV (xA 1 F rfl fun a F=>xJ ?_)));obtain⟨o3,d,bg⟩:=xM d;refine oH (fun a w=>∃ (s4:List ArcStep) (v5:Value) (s5:Int) (s6:List (List Int)),o3= .nx (s4,s5,s6)∧Sk a 126 [(2,f),(9,v5)]∧Sep p B h w [rl 3 qH 173 v5 s4,rw N0 1 (vQ 1 xI) 41 f s6]∧xS s5) ?_ ?_
 ·
  refine oJ ?_;obtain⟨cb,cc,d⟩:=bJ d;refine qK (fun g a w=>∃ (t:List ArcStep) (v6:Value) (s8:Int) (s9:List (List Int)),fA cb g (t,s8,s9)=some o3∧Sk a 126 [(0,j),(1,n),(2,f),(3,.bool i),(9,v6),(11,xC s8)]∧Sep p B h w [rl 3 qH 173 v6 t,rw N0 1 (vQ 1 xI) 41 f s9]∧xS s8) N ?_ ?_
  ·
   exact⟨[],I,(-1),O,d,F.su,H,(show xS (-1) by decide)⟩
  intro g2 a w ⟨t,v6,s8,s9,d,F,H,i5⟩;obtain⟨en,t2,eo,d,av⟩:=kR d;rw[cc] at d;refine xF (xV (xA 2 F rfl fun a F=>oL underlying170 F rfl rfl (H.l 0 rfl) fun a i6 F=>xA 1 F rfl fun a F=>xJ (qV F rfl (fun aw=>?_) (fun aw=>?_))))
  ·
   replace d:=vX aw d;refine xN (xG (oJ (xV (xA 1 F rfl fun a F=>oL underlying170 F rfl rfl (H.l 0 rfl) fun a i7 F=>xA 1 F rfl fun a F=>xJ (xF ?_)))));refine xY (xA 1 F rfl fun a F=>xJ ?_);obtain⟨o4,d,bh⟩:=xM d;refine oH (fun a w=>∃ (ac:List ArcStep) (v7:Value) (ad:List (List Int)),o4= .nx (ac,ad)∧Sk a 126 [(0,j),(1,n),(2,f),(3,.bool i),(9,v7),(11,xC (t.length:Int))]∧Sep p B h w [rl 3 qH 173 v7 ac,rw N0 1 (vQ 1 xI) 41 f ad]) ?_ ?_
   ·
    refine oJ ?_;obtain⟨cd,ce,d⟩:=qP d;refine qK (fun g a w=>∃ (C:Nat) (Q:List Con) (Z:List ArcStep) (v8:Value) (a0:List (List Int)),(C≤V.cons.length∧V.cons.drop C=Q)∧Q.length=g∧qT cd Q C (Z,a0)=some o4∧Sk a 126 [(12,xC (C:Int)),(0,j),(1,n),(2,f),(3,.bool i),(9,v8),(11,xC (t.length:Int))]∧Sep p B h w [rl 3 qH 173 v8 Z,rw N0 1 (vQ 1 xI) 41 f a0]) V.cons.length ?_ ?_
    ·
     exact⟨0,V.cons,t,v6,s9,⟨Nat.zero_le _,rfl⟩,rfl,d,F.su,H⟩
    intro g3 a w ⟨C,Q,Z,v8,a0,D,cf,d,F,H⟩
    cases Q with
    | nil=>
     replace d:=qO d;have q1:=qQ D.1 D.2;have l1:=vS q1;refine xF (xV (xA 2 F rfl fun a F=>oN F rfl rfl W fun a F=>oF (s':=1) zT F rfl rfl W xK.f1 fun a p2 h2 F=>olS isAgg27 F rfl rfl H.sm h2 fun a v9 h3 F=>oL underlying27 F rfl rfl h3 fun a i8 F=>xA 1 F rfl fun a F=>qU ?_));refine xG (zD F rfl l1 (qJ (qM (qM (zQ (xG ?_))))));exact⟨Z,v8,a0,(zH d),F.su,H⟩
    | cons x4 Q=>
     subst cf;replace D:=oZ D.2;have y1:=qX D.2.1;obtain⟨ep,d,bi⟩:=qG d;rw[ce] at d;have l1:=vE D.1;refine xF (xV (xA 2 F rfl fun a F=>oN F rfl rfl W fun a F=>oF (s':=1) zT F rfl rfl W xK.f1 fun a p3 h4 F=>olS isAgg27 F rfl rfl H.sm h4 fun a er h5 F=>oL underlying27 F rfl rfl h5 fun a i9 F=>xA 1 F rfl fun a F=>qU ?_));refine xG (zC F rfl l1 (xN (xG (xF ?_))));have j1:=gP (Nat.le_of_lt D.1) i9;have m1:=zU D.1 i9;refine oJ (xV (xA 1 F rfl fun a F=>oN F rfl rfl W fun a F=>oF (s':=1) zT F rfl rfl W xK.f1 fun a p4 h6 F=>olS isAgg27 F rfl rfl H.sm h6 fun a es h7 F=>xA 1 F rfl fun a F=>oI underlying27 sizeOf69 F rfl rfl rfl h7 y1 fun a p5 T F=>xA 1 F rfl fun a F=>qU ?_));refine xG (xV (xA 1 F rfl fun a F=>xJ ?_));obtain⟨o5,d,bj⟩:=xM d;refine oH (fun a w=>∃ (ae:List ArcStep) (af:Value) (ag:List (List Int)),o5= .nx (ae,ag)∧Sk a 126 [(0,j),(1,n),(2,f),(3,.bool i),(9,af),(11,xC (t.length:Int)),(12,xC (C:Int))]∧Sep p B h w [rl 3 qH 173 af ae,rw N0 1 (vQ 1 xI) 41 f ag]) ?_ ?_
     ·
      refine oJ ?_;obtain⟨cg,ch,d⟩:=qP d;refine qK (fun g a w=>∃ (G:Nat) (U:List Int) (a1:List ArcStep) (a2:Value) (a3:List (List Int)),(G≤x4.scope.length∧x4.scope.drop G=U)∧U.length=g∧qT cg U G (a1,a3)=some o5∧Sk a 126 [(14,xC (G:Int)),(0,j),(1,n),(2,f),(3,.bool i),(9,a2),(11,xC (t.length:Int)),(12,xC (C:Int)),(13,p5)]∧Sep p B h w [rl 3 qH 173 a2 a1,rw N0 1 (vQ 1 xI) 41 f a3]) x4.scope.length ?_ ?_
      ·
       exact⟨0,x4.scope,Z,v8,a0,⟨Nat.zero_le _,rfl⟩,rfl,d,F.su,H⟩
      intro g4 a w ⟨G,U,a1,a2,a3,E,ci,d,F,H⟩
      cases U with
      | nil=>
       replace d:=qO d;have q2:=qQ E.1 E.2;have l2:=vS q2;refine xF (xV (xA 2 F rfl fun a F=>oN F rfl rfl T fun a F=>oF (s':=1) bM F rfl rfl T oR.f1 fun a p6 h9 F=>olS isAgg41 F rfl rfl H.sm h9 fun a et cj F=>oL underlying41 F rfl rfl cj fun a eu F=>xA 1 F rfl fun a F=>qU ?_));refine xG (zD F rfl l2 (qJ (qM (qM (zQ (xG ?_))))));exact⟨a1,a2,a3,(zH d),F.su,H⟩
      | cons x5 U=>
       subst ci;replace E:=oZ E.2;have y2:=qX E.2.1;obtain⟨ew,d,bm⟩:=qG d;rw[ch] at d;have l2:=vE E.1;refine xF (xV (xA 2 F rfl fun a F=>oN F rfl rfl T fun a F=>oF (s':=1) bM F rfl rfl T oR.f1 fun a p7 cl F=>olS isAgg41 F rfl rfl H.sm cl fun a ex cm F=>oL underlying41 F rfl rfl cm fun a bn F=>xA 1 F rfl fun a F=>qU ?_));refine xG (zC F rfl l2 (xN (xG (xF ?_))));have j2:=gP (Nat.le_of_lt E.1) bn;have m2:=zU E.1 bn;refine oJ (xV (xA 1 F rfl fun a F=>oN F rfl rfl T fun a F=>oF (s':=1) bM F rfl rfl T oR.f1 fun a p8 cn F=>olS isAgg41 F rfl rfl H.sm cn fun a ey co F=>xA 1 F rfl fun a F=>oI underlying41 sizeOf2 F rfl rfl rfl co y2 fun a p9 cp F=>olI isAgg2 F rfl rfl H.sm cp fun a cq F=>xA 1 F rfl fun a F=>?_));refine vG (xA 2 F rfl fun a F=>?_);obtain⟨z3,c3,d⟩:=xB d;refine oI underlying38 sizeOf41 F rfl rfl rfl (H.r 1 rfl) c3 fun a ez cr F=>olS isAgg41 F rfl rfl (Sm.refl _ _) cr (fun a f3 cs F=>?_);obtain⟨X,c4,d⟩:=xB d;refine oG F rfl call59 rfl (eD X c4 _ aA cs) (fun a vv w ⟨ax,f4,S⟩ F=>?_);subst vv;have H:=H.r1 S n0;refine xA 1 F rfl fun a F=>vG (xA 1 F rfl fun a F=>xJ ?_);obtain⟨o6,d,bp⟩:=xM d;refine oH (fun a w=>∃ (ah:List ArcStep) (ai:Value) (aj:List (List Int)),o6= .nx (ah,aj)∧Sk a 126 [(0,j),(1,n),(2,f),(3,.bool i),(9,ai),(11,xC (t.length:Int)),(12,xC (C:Int)),(13,p5),(14,xC (G:Int))]∧Sep p B h w [rl 3 qH 173 ai ah,rw N0 1 (vQ 1 xI) 41 f aj]) ?_ ?_
       ·
        refine oJ ?_;obtain⟨ct,cu,d⟩:=qP d;refine qK (fun g a w=>∃ (J:Nat) (K:List Int) (a4:List ArcStep) (a5:Value) (M:List (List Int)),(J≤X.length∧X.drop J=K)∧K.length=g∧qT ct K J (a4,M)=some o6∧Sk a 126 [(17,xC (J:Int)),(0,j),(1,n),(2,f),(3,.bool i),(9,a5),(11,xC (t.length:Int)),(12,xC (C:Int)),(13,p5),(14,xC (G:Int)),(15,xC x5),(16,ax)]∧Sep p B h w [rl 1 xI 2 ax X,rl 3 qH 173 a5 a4,rw N0 1 (vQ 1 xI) 41 f M]) X.length ?_ ?_
        ·
         exact⟨0,X,a1,a2,a3,⟨Nat.zero_le _,rfl⟩,rfl,d,F.su,H⟩
        intro g5 a w ⟨J,K,a4,a5,M,A,cx,d,F,H⟩
        cases K with
        | nil=>
         replace d:=qO d;have q3:=qQ A.1 A.2;have l3:=vS q3;refine xF (xV (xA 2 F rfl fun a F=>oL underlying41 F rfl rfl (H.l 0 rfl) fun a f5 F=>xA 1 F rfl fun a F=>xJ (zD F rfl l3 (qJ ?_))));refine qM (qM (zQ (xG ?_)));exact⟨a4,a5,M,(zH d),F.su,(H.s [1,2] rfl rfl)⟩
        | cons x6 K=>
         subst cx;replace A:=oZ A.2;have y3:=qX A.2.1;obtain⟨f6,d,ay⟩:=qG d;rw[cu] at d;have l3:=vE A.1;refine xF (xV (xA 2 F rfl fun a F=>oL underlying41 F rfl rfl (H.l 0 rfl) fun a bq F=>xA 1 F rfl fun a F=>xJ (zC F rfl l3 (xN ?_))));refine xG (xF ?_);have j3:=gP (Nat.le_of_lt A.1) bq;have m3:=zU A.1 bq;refine oJ (xV (xA 6 F rfl fun a F=>oI underlying41 sizeOf2 F rfl rfl rfl (H.l 0 rfl) y3 fun a f7 cy F=>olI isAgg2 F rfl rfl (Sm.refl _ _) cy (fun a cz F=>?_)));obtain⟨z5,c5,d⟩:=xB d;refine oK F rfl call148 rfl H (tS z5 c5 _ aA (H.a A0) (H.a T) (H.r 2 rfl) j2 cz) fun a w H F=>xA 1 F rfl fun a F=>xJ (qV F rfl (fun az=>?_) (fun az=>?_))
         ·
          replace d:=vX az d;refine xF ?_;obtain⟨z6,c6,d⟩:=xB d;obtain⟨z7,c7,d⟩:=xB d;obtain⟨w1,rfl⟩:∃ x,x=w:=⟨_,rfl⟩;have f8:=H.sm;obtain⟨X1,N1,g6,e1,H,br,f9⟩:=H.fza;have bt:=g6.ld;refine xD H (by kernel_rfl) fun w H=>qW 0 rfl (by kernel_rfl) (xO F rfl (fun w l=>xL F rfl) fun a F=>qW 1 rfl (by kernel_rfl) (xO F rfl (fun w l=>xL F rfl) fun a F=>qW 2 rfl (by kernel_rfl) (xO F rfl (fun w l=>xL F rfl) fun a F=>qW 3 rfl (by kernel_rfl) (xO F rfl (fun w l=>xL F rfl) fun a F=>qW 6 rfl (by kernel_rfl) (xO F rfl (fun w l=>xL F rfl) (fun a F=>?_))))));refine qW 7 rfl (by kernel_rfl) (xO F rfl (fun w l=>xL F rfl) fun a F=>qE 8 rfl (by kernel_rfl) (vI underlying41 sizeOf2 F rfl rfl rfl bt y3 fun a fa d0 F=>qE 9 rfl (by kernel_rfl) (vlI isAgg2 F rfl rfl H.v d0 fun a d1 F=>xE H 4 rfl (by kernel_rfl) (oI underlying38 sizeOf41 F rfl rfl rfl (H.r 1 rfl) c6 fun a fb d2 F=>xJ ⟨⟨_,H⟩,?_⟩))));refine xE H 5 rfl (by kernel_rfl) (olS isAgg41 F rfl rfl (Sm.refl _ _) d2 fun a fc d3 F=>xJ ⟨⟨_,H⟩,?_⟩);refine xE H 10 rfl (by kernel_rfl) (oG F rfl call129 rfl (mN z7 c7 _ aA d3 d1) (fun a vv w ⟨fd,fe,S⟩ F=>?_));subst vv;have H:=H.r1 S n0;refine xJ ⟨⟨_,H⟩,?_⟩;refine xE H 11 rfl (by kernel_rfl) (oRi underlying38 sizeOf41 F rfl rfl rfl H 2 rfl c6 fun a ff fg d4 F=>xJ ⟨⟨_,H⟩,?_⟩);refine xE H 12 rfl (by kernel_rfl) (oSc sizeOf41 F rfl rfl rfl (H.s [2,0,1] rfl rfl) d4 (fZ c6) n0 (fun e q=>(Eo.sl q.ld)) ((H.s [2,0,1] rfl rfl).l 1 rfl).one rfl fun w H=>xJ ⟨⟨_,H⟩,?_⟩);refine vZ (by kernel_rfl) (xG (xV (xA 4 F rfl fun a F=>oI underlying41 sizeOf2 F rfl rfl rfl bt y3 fun a fh d5 F=>olI isAgg2 F rfl rfl H.sm d5 fun a d6 F=>xA 1 F rfl fun a F=>?_)));refine vY underlying173 zeroValue173 (fun w=>by simp [sizeOf2];rfl) F rfl rfl rfl rfl rfl (oc rfl (oc rfl (oc rfl on))) rfl rfl fun a F=>cM (R:=qH) (y:=(ArcStep.mk x5 x6 (C:Int))) underlying170 sizeOf173 zeroValue173 rfl rfl F rfl rfl H (Eo.agg (qH.m cq d6 j1)) (fun a w fi H F=>?_);obtain⟨z8,c8,d⟩:=xB d;refine oPL (sz:=3) (R:=qH) (z:=(.agg #[xC 0,xC 0,xC 0])) (bytes:=24) underlying170 (by kernel_rfl) rfl rfl F rfl rfl rfl (H.s [2,0,1] rfl rfl) c8 fun a w ak H F=>xA 1 F rfl fun a F=>xJ (xF ?_);obtain⟨o7,d,d7⟩:=xM d;refine oH (fun a w=>∃ (b0:Bool),o7= .nx b0∧Sk a 126 [(0,j),(1,n),(2,f),(3,.bool i),(9,ak),(11,xC (t.length:Int)),(12,xC (C:Int)),(13,p5),(14,xC (G:Int)),(15,xC x5),(16,ax),(17,xC (J:Int)),(123,.bool b0)]∧Sep X1 N1 w1 w [rl 3 qH 173 ak z8,rw N0 1 (vQ 1 xI) 41 f (M.set (x5).toNat z7)]) ?_ ?_
          ·
           refine xY (xA 2 F rfl fun a F=>?_)
           rcases vR i with a6 | a6
           ·
            replace d:=vX a6 d;have F:=F.eb 116 rfl a6;refine xA 2 F rfl fun a F=>?_;obtain⟨z9,c9,d⟩:=xB d;refine oI underlying38 sizeOf41 F rfl rfl rfl (H.r 1 rfl) c9 fun a fj d8 F=>olS isAgg41 F rfl rfl (Sm.refl _ _) d8 fun a fk d9 F=>oL underlying41 F rfl rfl d9 fun a fl F=>xA 2 F rfl fun a F=>xJ ?_;exact⟨((z9.length:Int)==0),(zH d),F.su,H⟩
           replace d:=vW a6 d;have F:=F.eb 116 rfl a6;refine xA 7 F rfl fun a F=>xJ ?_;exact⟨false,(zH d),F.su,H⟩
          rintro a w ⟨b0,rfl,F,H⟩
          have d:=xW d7;refine xG (qV F rfl (fun b1=>?_) (fun b1=>?_))
          ·
           replace d:=vX b1 d;refine xV (xA 2 F rfl fun a F=>xJ (xR (vT (oQ (oQ ?_)))));replace d:=kD d ay;refine vT (oQ ?_);replace d:=zZ d bp;refine vT (oQ (oQ ?_));replace d:=kD d bm;refine vT (oQ ?_);replace d:=zZ d bj;refine vT (oQ (oQ ?_));replace d:=kD d bi;refine vT (oQ ?_);replace d:=zZ d bh;refine vT (oQ ?_);replace d:=kD d av;refine vT (oQ ?_);replace d:=zZ d bg;refine oQ ?_;have H:=(br.1 H (Ns.all ⟨n0,⟨n0,trivial⟩⟩));refine xT F rfl (oE F rfl) ?_;obtain rfl:=oj d;exact⟨_,rfl,ak,rfl,(H.s [1,2] rfl rfl)⟩
          replace d:=vW b1 d;refine xN (vH (xG (xY (xA 1 F rfl fun a F=>vP F rfl rfl rfl m3 fun a F=>xA 1 F rfl fun a F=>xJ ?_))));replace d:=vU d ay;exact⟨_,Nat.lt_succ_self _,J+1,K,z8,ak,(M.set (x5).toNat z7),⟨A.1,A.2.2⟩,rfl,d,F.su,(br.1 H (Ns.all ⟨n0,⟨n0,trivial⟩⟩))⟩
         replace d:=vW az d;refine xN (vH (xG (xY (xA 1 F rfl fun a F=>vP F rfl rfl rfl m3 fun a F=>xA 1 F rfl fun a F=>xJ ?_))));replace d:=vU d ay;exact⟨_,Nat.lt_succ_self _,J+1,K,a4,a5,M,⟨A.1,A.2.2⟩,rfl,d,F.su,H⟩
       rintro a w ⟨ah,ai,aj,rfl,F,H⟩
       have d:=xW bp;refine vH (xG (xY (xA 1 F rfl fun a F=>vP F rfl rfl rfl m2 fun a F=>xA 1 F rfl fun a F=>xJ ?_)));replace d:=vU d bm;exact⟨_,Nat.lt_succ_self _,G+1,U,ah,ai,aj,⟨E.1,E.2.2⟩,rfl,d,F.su,H⟩
     rintro a w ⟨ae,af,ag,rfl,F,H⟩
     have d:=xW bj;refine vH (xG (xY (xA 1 F rfl fun a F=>vP F rfl rfl rfl m1 fun a F=>xA 1 F rfl fun a F=>xJ ?_)));replace d:=vU d bi;exact⟨_,Nat.lt_succ_self _,C+1,Q,ae,af,ag,⟨D.1,D.2.2⟩,rfl,d,F.su,H⟩
   rintro a w ⟨ac,v7,ad,rfl,F,H⟩
   have d:=xW bh;refine vH (xG ?_);replace d:=vU d av;exact⟨t2,(by omega),ac,v7,(t.length:Int),ad,d,F.su,H,i7⟩
  replace d:=vW aw d;refine qJ (qM (qM ?_));replace d:=gV d av;refine zQ (xG ?_);exact⟨t,v6,s8,s9,(zH d),F.su,H,i5⟩
 rintro a w ⟨s4,v5,s5,s6,rfl,F,H,fm⟩
 have d:=xW bg;refine xG (xV (xA 2 F rfl fun a F=>xJ (xR (xT F rfl (oE F rfl) ?_))));obtain rfl:=oj d;exact⟨_,rfl,v5,rfl,H⟩
end Go.Proofs.YtncganhbpbehaaaGreat
