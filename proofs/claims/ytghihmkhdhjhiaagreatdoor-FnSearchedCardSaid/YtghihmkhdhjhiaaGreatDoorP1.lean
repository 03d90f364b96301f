import Derived.Test.YtghihmkhdhjhiaaGreatDoorZ
import Derived.Test.YtghihmkhdhjhiaaGreatDoorNG
import Derived.Test.YtghihmkhdhjhiaaGreatDoorNJ
namespace Go.Proofs.YtghihmkhdhjhiaaGreatDoor
open Go.Proofs.Tryz
set_option maxHeartbeats 1000000
set_option linter.unusedVariables false
set_option linter.unusedSimpArgs false
set_option maxRecDepth 100000
open Go.RowKit
def dB (c d e:Int):Option Bool:=
 zW (σ:=Bool) (
  if (decide (d≤c)) then  some (.nx (decide (c≤e))) else  some (.nx false)) fun f=>
 some f
theorem dU {B:Nat→Prop} {e h i:Int} (r:Bool) (d:dB e h i=some r)  (j:World) (t:∀ c,B c→c<j.heap.size) (y:xO e) (A:xO h) (C:xO i):Calls Tryz.prog 44 #[xC e,xC h,xC i] j (kU (.bool r) j):=by
 unfold dB at d
 refine xW (L:=[(0,xC e),(1,xC h),(2,xC i)]) func44 rfl rfl rfl (sc rfl (sc rfl (sc rfl sn))) (fun a F=>?_);have H:=Sep.start t;refine xV (xA 1 F rfl fun a F=>xG (xF ?_));obtain⟨x,d,p⟩:=xT d;refine oR (fun a w=>∃ (n:Bool),x= .nx n∧Sk a 15 [(6,.bool n)]∧Sep [] B j w []) ?_ ?_
 ·
  refine oM (xA 4 F rfl fun a F=>?_)
  rcases vJ (decide (h≤e)) with f | f
  ·
   replace d:=vY f d;have F:=F.eb 10 rfl f;refine xA 5 F rfl fun a F=>xG ?_;exact⟨(decide (e≤i)),(zL d),F.su,H⟩
  replace d:=vX f d;have F:=F.eb 10 rfl f;refine xA 5 F rfl fun a F=>xG ?_;exact⟨false,(zL d),F.su,H⟩
 rintro a w ⟨n,rfl,F,H⟩
 have d:=xY p;refine xH (xP (xR F rfl (xX F rfl) ?_));obtain rfl:=oj d;exact⟨rfl,H.bl⟩
def fA (c:Int):Option Bool:=
 xZ (dB c 1 4) fun d=>
 some d
theorem nI {B:Nat→Prop} {d:Int} (r:Bool) (e:fA d=some r)  (f:World) (i:∀ c,B c→c<f.heap.size) (h:xO d):Calls Tryz.prog 75 #[xC d] f (kU (.bool r) f):=by
 unfold fA at e
 refine xW (L:=[(0,xC d)]) func75 rfl rfl rfl (sc rfl sn) (fun a F=>?_);have H:=Sep.start i;refine xV (xA 1 F rfl fun a F=>vE (xA 1 F rfl fun a F=>?_));obtain⟨j,n,e⟩:=xB e;refine oK F rfl call44 rfl H (dU j n _ aA h (show xO (1) by decide) (show xO (4) by decide)) fun a w H F=>xA 1 F rfl fun a F=>xG (xP (xR F rfl (xX F rfl) ?_));obtain rfl:=oj e;exact⟨rfl,H.bl⟩
def fM (c:Int):Option Bool:=
 xZ (dB c 1 4) fun d=>
 some d
theorem tP {B:Nat→Prop} {d:Int} (r:Bool) (e:fM d=some r)  (f:World) (i:∀ c,B c→c<f.heap.size) (h:xO d):Calls Tryz.prog 112 #[xC d] f (kU (.bool r) f):=by
 unfold fM at e
 refine xW (L:=[(0,xC d)]) func112 rfl rfl rfl (sc rfl sn) (fun a F=>?_);have H:=Sep.start i;refine xV (xA 1 F rfl fun a F=>vE (xA 1 F rfl fun a F=>?_));obtain⟨j,n,e⟩:=xB e;refine oK F rfl call44 rfl H (dU j n _ aA h (show xO (1) by decide) (show xO (4) by decide)) fun a w H F=>xA 1 F rfl fun a F=>xG (xP (xR F rfl (xX F rfl) ?_));obtain rfl:=oj e;exact⟨rfl,H.bl⟩
def eG (d e:Int) (c:List Int):Option Bool:=
 zW (σ:=Unit) (
  qR (σ:=Unit) (ρ:=Bool) (fun (j:Nat) (f:Int) (s:Unit)=>
    match s with
    | _=>
    xZ (ck (d - 1)) fun h=>
    xZ (dB f 0 h) fun i=>
    if (!i) then
     some (.ret false)
    else
     some (.go ())) c 0 ()) fun _=>
 some (((c.length:Int)==e))
theorem tT {B:Nat→Prop} {p h:Int} {i:List Int} (r:Bool) (d:eG p h i=some r) {t:Value} (j:World) (M:∀ c,B c→c<j.heap.size) (U:xO p) (V:xO h) (x:Bo B j (Sl 1 xI) t i):Calls Tryz.prog 113 #[xC p,xC h,t] j (kU (.bool r) j):=by
 unfold eG at d
 refine xW (L:=[(0,xC p),(1,xC h),(2,t)]) func113 rfl rfl rfl (sc rfl (sc rfl (sc rfl sn))) (fun a F=>?_);have H:=Sep.start M;refine xV (xA 1 F rfl fun a F=>xG (xF (xV (xA 1 F rfl fun a F=>xG ?_))));obtain⟨D,d,A⟩:=xT d;refine oR (fun a w=>D= .nx ()∧Sk a 26 [(1,xC h),(2,t)]∧Sep [] B j w []) ?_ ?_
 ·
  refine oQ ?_;obtain⟨J,K,d⟩:=qZ d;refine qY (fun g a w=>∃ (n:Nat) (f:List Int),(n≤i.length∧i.drop n=f)∧f.length=g∧qR J f n ()=some D∧Sk a 26 [(7,xC (n:Int)),(0,xC p),(1,xC h),(2,t)]∧Sep [] B j w []) i.length ?_ ?_
  ·
   exact⟨0,i,⟨Nat.zero_le _,rfl⟩,rfl,d,F.su,H⟩
  intro X a w ⟨n,f,e,I,d,F,H⟩
  cases f with
  | nil=>
   replace d:=vA d;have N:=vC e.1 e.2;have l1:=zK N;refine xF (xV (xA 2 F rfl fun a F=>oL underlying32 F rfl rfl x fun a Y F=>xA 1 F rfl fun a F=>xG (zS F rfl l1 (qV ?_))));refine qX (qX (kF (xH ?_)));exact⟨(zL d),F.su,H⟩
  | cons Z f=>
   subst I;replace e:=qE e.2;have O:=vH e.2.1;obtain⟨W,d,C⟩:=qM d;rw[K] at d;have l1:=vR e.1;refine xF (xV (xA 2 F rfl fun a F=>oL underlying32 F rfl rfl x fun a E F=>xA 1 F rfl fun a F=>xG (zQ F rfl l1 (xS ?_))));refine xH (xF ?_);have j1:=k64 (Nat.le_of_lt e.1) E;have P:=kO e.1 E;refine oQ (xV (xA 2 F rfl fun a F=>oI underlying32 sizeOf2 F rfl rfl rfl x O fun a p1 Q F=>olI isAgg2 F rfl rfl H.sm Q fun a R F=>xA 1 F rfl fun a F=>?_));obtain⟨z1,G,d⟩:=xB d;refine fL F rfl rfl rfl G (fun a F=>?_);obtain⟨S,T,d⟩:=xB d;refine oK F rfl call44 rfl H (dU S T _ aA R (show xO (0) by decide) (kQ G)) fun a w H F=>xA 1 F rfl fun a F=>xG (qS F rfl (fun y=>?_) (fun y=>?_))
   ·
    replace d:=vY y d;refine xV (xA 1 F rfl fun a F=>xG (xP (vO (oJ (oJ ?_)))));replace d:=kK d C;refine vO (oJ ?_);replace d:=kI d A;refine oJ (xR F rfl (xX F rfl) ?_);obtain rfl:=oj d;exact⟨rfl,H.bl⟩
   replace d:=vX y d;refine xS (vK (xH (oM (xA 1 F rfl fun a F=>zG F rfl rfl rfl P fun a F=>xA 1 F rfl fun a F=>xG ?_))));replace d:=zM d C;exact⟨_,Nat.lt_succ_self _,n+1,f,⟨e.1,e.2.2⟩,rfl,d,F.su,H⟩
 rintro a w ⟨rfl,F,H⟩
 have d:=xY A;refine xH (xV (xA 1 F rfl fun a F=>oL underlying32 F rfl rfl x fun a i4 F=>xA 3 F rfl fun a F=>xG (xP ?_)));refine xR F rfl (xX F rfl) ?_;obtain rfl:=oj d;exact⟨rfl,H.bl⟩
def dH (e f:List Int):Option Bool:=
 zW (σ:=Unit) (
  qR (σ:=Unit) (ρ:=Bool) (fun (h:Nat) (c:Int) (s:Unit)=>
    match s with
    | _=>
    xZ (ix f (h:Int)) fun d=>
    if (c != d) then
     some (.ret ((decide (c<d))))
    else
     some (.go ())) e 0 ()) fun _=>
 some false
theorem sF {B:Nat→Prop} {i C:List Int} (r:Bool) (d:dH i C=some r) {n:Value} {p:Value} (f:World) (O:∀ c,B c→c<f.heap.size) (t:Bo B f (Sl 1 xI) n i) (D:Bo B f (Sl 1 xI) p C):Calls Tryz.prog 114 #[n,p] f (kU (.bool r) f):=by
 unfold dH at d
 refine xW (L:=[(0,n),(1,p)]) func114 rfl rfl rfl (sc rfl (sc rfl sn)) (fun a F=>?_);have H:=Sep.start O;refine xV (xA 1 F rfl fun a F=>xG (xF (xV (xA 1 F rfl fun a F=>xG ?_))));obtain⟨E,d,y⟩:=xT d;refine oR (fun a w=>E= .nx ()∧Sk a 30 []∧Sep [] B f w []) ?_ ?_
 ·
  refine oQ ?_;obtain⟨K,M,d⟩:=qZ d;refine qY (fun g a w=>∃ (j:Nat) (h:List Int),(j≤i.length∧i.drop j=h)∧h.length=g∧qR K h j ()=some E∧Sk a 30 [(5,xC (j:Int)),(0,n),(1,p)]∧Sep [] B f w []) i.length ?_ ?_
  ·
   exact⟨0,i,⟨Nat.zero_le _,rfl⟩,rfl,d,F.su,H⟩
  intro W a w ⟨j,h,e,N,d,F,H⟩
  cases h with
  | nil=>
   replace d:=vA d;have P:=vC e.1 e.2;have l1:=zK P;refine xF (xV (xA 2 F rfl fun a F=>oL underlying32 F rfl rfl t fun a X F=>xA 1 F rfl fun a F=>xG (zS F rfl l1 (qV ?_))));refine qX (qX (kF (xH ?_)));exact⟨(zL d),F.sub sn,H⟩
  | cons Y h=>
   subst N;replace e:=qE e.2;have G:=vH e.2.1;obtain⟨V,d,A⟩:=qM d;rw[M] at d;have l1:=vR e.1;refine xF (xV (xA 2 F rfl fun a F=>oL underlying32 F rfl rfl t fun a I F=>xA 1 F rfl fun a F=>xG (zQ F rfl l1 (xS ?_))));refine xH (xF ?_);have Z:=k64 (Nat.le_of_lt e.1) I;have Q:=kO e.1 I;refine oQ (xF (xQ H (by kernel_rfl) (by kernel_rfl) (xM F rfl (fun w l=>xL F rfl) fun a F=>xM F rfl (fun w l=>xL F rfl) fun a F=>qI underlying32 sizeOf2 F rfl rfl rfl t G fun a p1 R F=>qlI isAgg2 F rfl rfl H.q R fun a i3 F=>xM F rfl (fun w l=>xL F rfl) fun a F=>xM F rfl (fun w l=>xL F rfl) (fun a F=>?_))));obtain⟨z1,J,d⟩:=xB d;refine qI underlying32 sizeOf2 F rfl rfl rfl D J fun a p2 S F=>qlI isAgg2 F rfl rfl H.q S fun a i4 F=>xM F rfl (fun w l=>rS F rfl rfl) fun a F=>kT fun w H=>xH (qS F rfl (fun x=>?_) (fun x=>?_))
   ·
    replace d:=vY x d;refine xF (xQ H (by kernel_rfl) (by kernel_rfl) (xM F rfl (fun w l=>xL F rfl) fun a F=>xM F rfl (fun w l=>xL F rfl) fun a F=>qI underlying32 sizeOf2 F rfl rfl rfl t G fun a p3 T F=>qlI isAgg2 F rfl rfl H.q T fun a i5 F=>xM F rfl (fun w l=>xL F rfl) fun a F=>xM F rfl (fun w l=>xL F rfl) fun a F=>qI underlying32 sizeOf2 F rfl rfl rfl D J fun a p4 U F=>qlI isAgg2 F rfl rfl H.q U fun a i6 F=>xM F rfl (fun w l=>mT F rfl rfl) (fun a F=>?_)));refine xM F rfl (fun w l=>qU F rfl) fun a F=>kT fun w H=>xH (xP (vO (oJ (oJ ?_))));replace d:=kK d A;refine vO (oJ ?_);replace d:=kI d y;refine oJ (xR F rfl (xX F rfl) ?_);obtain rfl:=oj d;exact⟨rfl,H.bl⟩
   replace d:=vX x d;refine xS (vK (xH (oM (xA 1 F rfl fun a F=>zG F rfl rfl rfl Q fun a F=>xA 1 F rfl fun a F=>xG ?_))));replace d:=zM d A;exact⟨_,Nat.lt_succ_self _,j+1,h,⟨e.1,e.2.2⟩,rfl,d,F.su,H⟩
 rintro a w ⟨rfl,F,H⟩
 have d:=xY y;refine xH (xV (xA 1 F rfl fun a F=>xG (xP (xR F rfl (xX F rfl) ?_))));obtain rfl:=oj d;exact⟨rfl,H.bl⟩
def fZ (d:Int) (c:Rel):Option Bool:=
 zW (σ:=Bool) (
  xZ (fA d) fun h=>
  if (!h) then  some (.nx true) else  xZ (fM c.arity) fun i=>
   some (.nx (!i))) fun j=>
 if j then
  some false
 else
  zW (σ:=Unit) (
   qR (σ:=Unit) (ρ:=Bool) (fun (e:Nat) (f:(List Int)) (s:Unit)=>
     match s with
     | _=>
     zW (σ:=Bool) (
      xZ (eG d c.arity f) fun n=>
      if (!n) then  some (.nx true) else  if (decide (0<(e:Int))) then  xZ (ck ((e:Int) - 1)) fun p=>
        xZ (ix c.tuples p) fun t=>
        xZ (dH t f) fun x=>
        some (.nx (!x)) else  some (.nx false)) fun y=>
     if y then
      some (.ret false)
     else
      some (.go ())) c.tuples 0 ()) fun _=>
  some true
theorem xBm {B:Nat→Prop} {n:Int} {t:Rel} (r:Bool) (d:fZ n t=some r) {x:Value} (i:World) (hN:∀ c,B c→c<i.heap.size) (J:xO n) (e:Bo B i (Pt 2 qG) x t):Calls Tryz.prog 74 #[xC n,x] i (kU (.bool r) i):=by
 unfold fZ at d
 refine xW (L:=[(0,xC n),(1,x)]) func74 rfl rfl rfl (sc rfl (sc rfl sn)) (fun a F=>?_);have H:=Sep.start hN;refine xV (xA 1 F rfl fun a F=>xG (xF (xF ?_)));obtain⟨o1,d,U⟩:=xT d;refine oR (fun a w=>∃ (G:Bool),o1= .nx G∧Sk a 63 [(0,xC n),(1,x),(16,.bool G)]∧Sep [] B i w []) ?_ ?_
 ·
  refine oM (xA 1 F rfl fun a F=>?_);obtain⟨N,c1,d⟩:=xB d;refine oK F rfl call75 rfl H (nI N c1 _ aA J) fun a w H F=>xA 2 F rfl fun a F=>?_
  rcases vJ (!N) with y | y
  ·
   replace d:=vY y d;have F:=F.eb 9 rfl y;refine xA 7 F rfl fun a F=>xG ?_;exact⟨true,(zL d),F.su,H⟩
  replace d:=vX y d;have F:=F.eb 9 rfl y;refine xA 1 F rfl fun a F=>oN F rfl rfl e fun a F=>oF (s':=1) mM F rfl rfl e qG.f0 fun a p1 h1 F=>olI isAgg2 F rfl rfl H.sm h1 (fun a i1 F=>?_);obtain⟨O,c2,d⟩:=xB d;refine oK F rfl call112 rfl H (tP O c2 _ aA i1) fun a w H F=>xA 2 F rfl fun a F=>xG ?_;exact⟨(!O),(zL d),F.su,H⟩
 rintro a w ⟨G,rfl,F,H⟩
 have d:=xY U;refine xH (qS F rfl (fun D=>?_) (fun D=>?_))
 ·
  replace d:=vY D d;refine xV (xA 1 F rfl fun a F=>xG (xP (oJ (xR F rfl (xX F rfl) ?_))));obtain rfl:=oj d;exact⟨rfl,H.bl⟩
 replace d:=vX D d;refine xS (xH (xF (xV (xA 1 F rfl fun a F=>xG ?_))));obtain⟨P,d,K⟩:=xT d;refine oR (fun a w=>P= .nx ()∧Sk a 63 []∧Sep [] B i w []) ?_ ?_
 ·
  refine oQ ?_;obtain⟨V,W,d⟩:=qZ d;refine qY (fun g a w=>∃ (j:Nat) (p:List (List Int)),(j≤t.tuples.length∧t.tuples.drop j=p)∧p.length=g∧qR V p j ()=some P∧Sk a 63 [(5,xC (j:Int)),(0,xC n),(1,x)]∧Sep [] B i w []) t.tuples.length ?_ ?_
  ·
   exact⟨0,t.tuples,⟨Nat.zero_le _,rfl⟩,rfl,d,F.su,H⟩
  intro g1 a w ⟨j,p,f,X,d,F,H⟩
  cases p with
  | nil=>
   replace d:=vA d;have q1:=vC f.1 f.2;have l1:=zK q1;refine xF (xV (xA 2 F rfl fun a F=>oN F rfl rfl e fun a F=>oF (s':=1) bJ F rfl rfl e qG.f1 fun a p2 h2 F=>gX isAgg55 F rfl rfl H.sm h2 fun a v2 h3 F=>oL underlying55 F rfl rfl h3 fun a i2 F=>xA 1 F rfl fun a F=>zE ?_));refine xH (zS F rfl l1 (qV (qX (qX (kF (xH ?_))))));exact⟨(zL d),F.sub sn,H⟩
  | cons x2 p=>
   subst X;replace f:=qE f.2;have Q:=vH f.2.1;obtain⟨ax,d,M⟩:=qM d;rw[W] at d;have l1:=vR f.1;refine xF (xV (xA 2 F rfl fun a F=>oN F rfl rfl e fun a F=>oF (s':=1) bJ F rfl rfl e qG.f1 fun a p3 h4 F=>gX isAgg55 F rfl rfl H.sm h4 fun a v3 h5 F=>oL underlying55 F rfl rfl h5 fun a R F=>xA 1 F rfl fun a F=>zE ?_));refine xH (zQ F rfl l1 (xS (xH (xF ?_))));have j1:=k64 (Nat.le_of_lt f.1) R;have m1:=kO f.1 R;refine oQ (xF ?_);obtain⟨o3,d,Y⟩:=xT d;refine oR (fun a w=>∃ (I:Bool),o3= .nx I∧Sk a 63 [(0,xC n),(1,x),(5,xC (j:Int)),(62,.bool I)]∧Sep [] B i w []) ?_ ?_
   ·
    refine xQ H (by kernel_rfl) (by kernel_rfl) (xM F rfl (fun w l=>xL F rfl) fun a F=>xM F rfl (fun w l=>xL F rfl) fun a F=>qN F rfl rfl e fun a F=>qF (s':=1) mM F rfl rfl e qG.f0 fun a p4 h6 F=>qlI isAgg2 F rfl rfl H.q h6 fun a i4 F=>xM F rfl (fun w l=>xL F rfl) fun a F=>qN F rfl rfl e fun a F=>qF (s':=1) bJ F rfl rfl e qG.f1 fun a p5 h7 F=>qlS isAgg55 F rfl rfl H.q h7 fun a v4 h8 F=>xM F rfl (fun w l=>xL F rfl) (fun a F=>?_));refine qI underlying55 sizeOf32 F rfl rfl rfl h8 Q fun a p6 h9 F=>qlS isAgg32 F rfl rfl H.q h9 (fun a v5 Z F=>?_);obtain⟨S,c3,d⟩:=xB d;refine fG F rfl call113 rfl (fun w w' h l=>l.through h) (fun w l=>tT S c3 w aA J i4 ((H.go l).a Z)) fun a F=>xM F rfl (fun w l=>iC F rfl) fun a F=>xM F rfl (fun w l=>xL F rfl) (fun a F=>?_)
    rcases vJ (!S) with A | A
    ·
     replace d:=vY A d;have F:=F.eb 40 rfl A;refine qD F rfl rfl fun a F=>qD F rfl rfl fun a F=>qD F rfl rfl fun a F=>qD F rfl rfl fun a F=>qD F rfl rfl fun a F=>qD F rfl rfl fun a F=>qD F rfl rfl fun a F=>qD F rfl rfl fun a F=>qD F rfl rfl fun a F=>qD F rfl rfl fun a F=>qD F rfl rfl (fun a F=>?_);refine qD F rfl rfl fun a F=>qD F rfl rfl fun a F=>qD F rfl rfl fun a F=>qD F rfl rfl fun a F=>qD F rfl rfl fun a F=>qD F rfl rfl fun a F=>qD F rfl rfl fun a F=>qD F rfl rfl fun a F=>qD F rfl rfl fun a F=>qD F rfl rfl fun a F=>xM F rfl (fun w l=>aX F rfl rfl) (fun a F=>?_);refine kT fun w H=>xH ?_;exact⟨true,(zL d),F.su,H⟩
    replace d:=vX A d;have F:=F.eb 40 rfl A;refine xM F rfl (fun w l=>xL F rfl) fun a F=>xM F rfl (fun w l=>xAw F rfl rfl) fun a F=>xM F rfl (fun w l=>xL F rfl) (fun a F=>?_)
    rcases vJ (decide (0<(j:Int))) with C | C
    ·
     replace d:=vY C d;have F:=F.eb 43 rfl C;refine xM F rfl (fun w l=>xL F rfl) fun a F=>qN F rfl rfl e fun a F=>qF (s':=1) bJ F rfl rfl e qG.f1 fun a p7 a0 F=>qlS isAgg55 F rfl rfl H.q a0 fun a v6 a1 F=>xM F rfl (fun w l=>xL F rfl) (fun a F=>?_);obtain⟨z4,c4,d⟩:=xB d;refine xM F rfl (fun w l=>mX F rfl rfl c4) (fun a F=>?_);obtain⟨z5,c5,d⟩:=xB d;refine qI underlying55 sizeOf32 F rfl rfl rfl a1 c5 fun a p8 a2 F=>qlS isAgg32 F rfl rfl H.q a2 fun a v7 a3 F=>xM F rfl (fun w l=>xL F rfl) fun a F=>qN F rfl rfl e fun a F=>qF (s':=1) bJ F rfl rfl e qG.f1 fun a p9 a4 F=>qlS isAgg55 F rfl rfl H.q a4 fun a v8 a5 F=>xM F rfl (fun w l=>xL F rfl) fun a F=>qI underlying55 sizeOf32 F rfl rfl rfl a5 Q fun a ay a6 F=>qlS isAgg32 F rfl rfl H.q a6 (fun a v9 a7 F=>?_);obtain⟨T,c6,d⟩:=xB d;refine fG F rfl call114 rfl (fun w w' h l=>l.through h) (fun w l=>sF T c6 w aA ((H.go l).a a3) ((H.go l).a a7)) fun a F=>xM F rfl (fun w l=>iC F rfl) fun a F=>xM F rfl (fun w l=>aX F rfl rfl) fun a F=>xM F rfl (fun w l=>bO F rfl rfl) fun a F=>kT fun w H=>xH ?_;exact⟨(!T),(zL d),F.su,H⟩
    replace d:=vX C d;have F:=F.eb 43 rfl C;refine qD F rfl rfl fun a F=>qD F rfl rfl fun a F=>qD F rfl rfl fun a F=>qD F rfl rfl fun a F=>qD F rfl rfl fun a F=>qD F rfl rfl fun a F=>qD F rfl rfl fun a F=>qD F rfl rfl fun a F=>qD F rfl rfl fun a F=>qD F rfl rfl fun a F=>qD F rfl rfl (fun a F=>?_);refine qD F rfl rfl fun a F=>qD F rfl rfl fun a F=>qD F rfl rfl fun a F=>qD F rfl rfl fun a F=>qD F rfl rfl fun a F=>qD F rfl rfl fun a F=>xM F rfl (fun w l=>bO F rfl rfl) fun a F=>xM F rfl (fun w l=>bO F rfl rfl) fun a F=>kT fun w H=>xH ?_;exact⟨false,(zL d),F.su,H⟩
   rintro a w ⟨I,rfl,F,H⟩
   have d:=xY Y;refine xH (qS F rfl (fun E=>?_) (fun E=>?_))
   ·
    replace d:=vY E d;refine xV (xA 1 F rfl fun a F=>xG (xP (vO (oJ (oJ ?_)))));replace d:=kK d M;refine vO (oJ ?_);replace d:=kI d K;refine oJ (xR F rfl (xX F rfl) ?_);obtain rfl:=oj d;exact⟨rfl,H.bl⟩
   replace d:=vX E d;refine xS (vK (xH (oM (xA 1 F rfl fun a F=>zG F rfl rfl rfl m1 fun a F=>xA 1 F rfl fun a F=>xG ?_))));replace d:=zM d M;exact⟨_,Nat.lt_succ_self _,j+1,p,⟨f.1,f.2.2⟩,rfl,d,F.su,H⟩
 rintro a w ⟨rfl,F,H⟩
 have d:=xY K;refine xH (xV (xA 1 F rfl fun a F=>xG (xP (xR F rfl (xX F rfl) ?_))));obtain rfl:=oj d;exact⟨rfl,H.bl⟩
def dN (c:Template):Option Bool:=
 zW (σ:=Unit) (
  qR (σ:=Unit) (ρ:=Bool) (fun (i:Nat) (d:Rel) (s:Unit)=>
    match s with
    | _=>
    xZ (fZ c.size d) fun e=>
    if (!e) then
     some (.ret false)
    else
     some (.go ())) c.rels 0 ()) fun _=>
 zW (σ:=Bool) (
  xZ (fA c.size) fun f=>
  if f then  some (.nx (decide ((c.rels.length:Int)≤6))) else  some (.nx false)) fun h=>
 some h
theorem rK {B:Nat→Prop} {i:Template} (r:Bool) (d:dN i=some r) {x:Value} (j:World) (Q:∀ c,B c→c<j.heap.size) (e:Bo B j (Pt 2 xJ) x i):Calls Tryz.prog 43 #[x] j (kU (.bool r) j):=by
 unfold dN at d
 refine xW (L:=[(0,x)]) func43 rfl rfl rfl (sc rfl sn) (fun a F=>?_);have H:=Sep.start Q;refine xV (xA 1 F rfl fun a F=>xG (xF (xV (xA 1 F rfl fun a F=>xG ?_))));obtain⟨E,d,C⟩:=xT d;refine oR (fun a w=>E= .nx ()∧Sk a 38 [(0,x)]∧Sep [] B j w []) ?_ ?_
 ·
  refine oQ ?_;obtain⟨J,K,d⟩:=qZ d;refine qY (fun g a w=>∃ (p:Nat) (n:List Rel),(p≤i.rels.length∧i.rels.drop p=n)∧n.length=g∧qR J n p ()=some E∧Sk a 38 [(3,xC (p:Int)),(0,x)]∧Sep [] B j w []) i.rels.length ?_ ?_
  ·
   exact⟨0,i.rels,⟨Nat.zero_le _,rfl⟩,rfl,d,F.su,H⟩
  intro g1 a w ⟨p,n,f,M,d,F,H⟩
  cases n with
  | nil=>
   replace d:=vA d;have R:=vC f.1 f.2;have l1:=zK R;refine xF (xV (xA 2 F rfl fun a F=>oN F rfl rfl e fun a F=>oF (s':=1) kW F rfl rfl e xJ.f1 fun a p1 S F=>gX isAgg24 F rfl rfl H.sm S fun a a9 T F=>oL underlying24 F rfl rfl T fun a i1 F=>xA 1 F rfl fun a F=>zE ?_));refine xH (zS F rfl l1 (qV (qX (qX (kF (xH ?_))))));exact⟨(zL d),F.su,H⟩
  | cons x1 n=>
   subst M;replace f:=qE f.2;have U:=vH f.2.1;obtain⟨aa,d,D⟩:=qM d;rw[K] at d;have l1:=vR f.1;refine xF (xV (xA 2 F rfl fun a F=>oN F rfl rfl e fun a F=>oF (s':=1) kW F rfl rfl e xJ.f1 fun a p2 V F=>gX isAgg24 F rfl rfl H.sm V fun a v1 W F=>oL underlying24 F rfl rfl W fun a G F=>xA 1 F rfl fun a F=>zE ?_));refine xH (zQ F rfl l1 (xS (xH (xF ?_))));have j1:=k64 (Nat.le_of_lt f.1) G;have X:=kO f.1 G;refine oQ (xF (xQ H (by kernel_rfl) (by kernel_rfl) (xM F rfl (fun w l=>xL F rfl) fun a F=>qN F rfl rfl e fun a F=>qF (s':=1) lD F rfl rfl e xJ.f0 fun a p3 Y F=>qlI isAgg2 F rfl rfl H.q Y fun a Z F=>xM F rfl (fun w l=>xL F rfl) fun a F=>qN F rfl rfl e fun a F=>qF (s':=1) kW F rfl rfl e xJ.f1 fun a p4 h6 F=>qlS isAgg24 F rfl rfl H.q h6 (fun a v2 h7 F=>?_))));refine xM F rfl (fun w l=>xL F rfl) fun a F=>qI underlying24 sizeOf57 F rfl rfl rfl h7 U (fun a p5 h8 F=>?_);obtain⟨z1,c1,d⟩:=xB d;refine fG F rfl call74 rfl (fun w w' h l=>l.through h) (fun w l=>xBm z1 c1 w aA Z ((H.go l).a h8)) fun a F=>xM F rfl (fun w l=>iC F rfl) fun a F=>kT fun w H=>xH (qS F rfl (fun y=>?_) (fun y=>?_))
   ·
    replace d:=vY y d;refine xV (xA 1 F rfl fun a F=>xG (xP (vO (oJ (oJ ?_)))));replace d:=kK d D;refine vO (oJ ?_);replace d:=kI d C;refine oJ (xR F rfl (xX F rfl) ?_);obtain rfl:=oj d;exact⟨rfl,H.bl⟩
   replace d:=vX y d;refine xS (vK (xH (oM (xA 1 F rfl fun a F=>zG F rfl rfl rfl X fun a F=>xA 1 F rfl fun a F=>xG ?_))));replace d:=zM d D;exact⟨_,Nat.lt_succ_self _,p+1,n,⟨f.1,f.2.2⟩,rfl,d,F.su,H⟩
 rintro a w ⟨rfl,F,H⟩
 have d:=xY C;refine xH (xF ?_);obtain⟨o2,d,N⟩:=xT d;refine oR (fun a w=>∃ (A:Bool),o2= .nx A∧Sk a 38 [(2,.bool A)]∧Sep [] B j w []) ?_ ?_
 ·
  refine oM (xA 1 F rfl fun a F=>oN F rfl rfl e fun a F=>oF (s':=1) lD F rfl rfl e xJ.f0 fun a p6 h9 F=>olI isAgg2 F rfl rfl H.sm h9 (fun a i4 F=>?_));obtain⟨I,c2,d⟩:=xB d;refine oK F rfl call75 rfl H (nI I c2 _ aA i4) fun a w H F=>xA 1 F rfl fun a F=>?_
  rcases vJ I with t | t
  ·
   replace d:=vY t d;have F:=F.eb 30 rfl t;refine xA 1 F rfl fun a F=>oN F rfl rfl e fun a F=>oF (s':=1) kW F rfl rfl e xJ.f1 fun a p7 O F=>gX isAgg24 F rfl rfl H.sm O fun a v3 P F=>oL underlying24 F rfl rfl P fun a i5 F=>xA 3 F rfl fun a F=>xG ?_;exact⟨(decide ((i.rels.length:Int)≤6)),(zL d),F.su,H⟩
  replace d:=vX t d;have F:=F.eb 30 rfl t;refine xA 8 F rfl fun a F=>xG ?_;exact⟨false,(zL d),F.su,H⟩
 rintro a w ⟨A,rfl,F,H⟩
 have d:=xY N;refine xH (xP (xR F rfl (xX F rfl) ?_));obtain rfl:=oj d;exact⟨rfl,H.bl⟩
def eP (c:List Int) (d:Int):Option Bool:=
 zW (σ:=Unit) (
  qR (σ:=Unit) (ρ:=Bool) (fun (i:Nat) (e:Int) (s:Unit)=>
    match s with
    | _=>
    xZ (ck (d - 1)) fun f=>
    xZ (dB e 0 f) fun h=>
    if (!h) then
     some (.ret false)
    else
     some (.go ())) c 0 ()) fun _=>
 some true
theorem sQ {B:Nat→Prop} {h:List Int} {n:Int} (r:Bool) (d:eP h n=some r) {p:Value} (i:World) (K:∀ c,B c→c<i.heap.size) (x:Bo B i (Sl 1 xI) p h) (T:xO n):Calls Tryz.prog 45 #[p,xC n] i (kU (.bool r) i):=by
 unfold eP at d
 refine xW (L:=[(0,p),(1,xC n)]) func45 rfl rfl rfl (sc rfl (sc rfl sn)) (fun a F=>?_);have H:=Sep.start K;refine xV (xA 1 F rfl fun a F=>xG (xF (xV (xA 1 F rfl fun a F=>xG ?_))));obtain⟨C,d,y⟩:=xT d;refine oR (fun a w=>C= .nx ()∧Sk a 20 []∧Sep [] B i w []) ?_ ?_
 ·
  refine oQ ?_;obtain⟨I,J,d⟩:=qZ d;refine qY (fun g a w=>∃ (j:Nat) (f:List Int),(j≤h.length∧h.drop j=f)∧f.length=g∧qR I f j ()=some C∧Sk a 20 [(5,xC (j:Int)),(0,p),(1,xC n)]∧Sep [] B i w []) h.length ?_ ?_
  ·
   exact⟨0,h,⟨Nat.zero_le _,rfl⟩,rfl,d,F.su,H⟩
  intro V a w ⟨j,f,e,G,d,F,H⟩
  cases f with
  | nil=>
   replace d:=vA d;have M:=vC e.1 e.2;have l1:=zK M;refine xF (xV (xA 2 F rfl fun a F=>oL underlying32 F rfl rfl x fun a W F=>xA 1 F rfl fun a F=>xG (zS F rfl l1 (qV ?_))));refine qX (qX (kF (xH ?_)));exact⟨(zL d),F.sub sn,H⟩
  | cons X f=>
   subst G;replace e:=qE e.2;have N:=vH e.2.1;obtain⟨U,d,A⟩:=qM d;rw[J] at d;have l1:=vR e.1;refine xF (xV (xA 2 F rfl fun a F=>oL underlying32 F rfl rfl x fun a D F=>xA 1 F rfl fun a F=>xG (zQ F rfl l1 (xS ?_))));refine xH (xF ?_);have Y:=k64 (Nat.le_of_lt e.1) D;have O:=kO e.1 D;refine oQ (xV (xA 2 F rfl fun a F=>oI underlying32 sizeOf2 F rfl rfl rfl x N fun a Z P F=>olI isAgg2 F rfl rfl H.sm P fun a Q F=>xA 1 F rfl fun a F=>?_));obtain⟨z1,E,d⟩:=xB d;refine fL F rfl rfl rfl E (fun a F=>?_);obtain⟨R,S,d⟩:=xB d;refine oK F rfl call44 rfl H (dU R S _ aA Q (show xO (0) by decide) (kQ E)) fun a w H F=>xA 1 F rfl fun a F=>xG (qS F rfl (fun t=>?_) (fun t=>?_))
   ·
    replace d:=vY t d;refine xV (xA 1 F rfl fun a F=>xG (xP (vO (oJ (oJ ?_)))));replace d:=kK d A;refine vO (oJ ?_);replace d:=kI d y;refine oJ (xR F rfl (xX F rfl) ?_);obtain rfl:=oj d;exact⟨rfl,H.bl⟩
   replace d:=vX t d;refine xS (vK (xH (oM (xA 1 F rfl fun a F=>zG F rfl rfl rfl O fun a F=>xA 1 F rfl fun a F=>xG ?_))));replace d:=zM d A;exact⟨_,Nat.lt_succ_self _,j+1,f,⟨e.1,e.2.2⟩,rfl,d,F.su,H⟩
 rintro a w ⟨rfl,F,H⟩
 have d:=xY y;refine xH (xV (xA 1 F rfl fun a F=>xG (xP (xR F rfl (xX F rfl) ?_))));obtain rfl:=oj d;exact⟨rfl,H.bl⟩
def eS (e:Template) (c:Instance):Option Bool:=
 zW (σ:=Bool) (
  xZ (dN e) fun f=>
  if (!f) then  some (.nx true) else  xZ (dB c.vars 1 10) fun h=>
   if (!h) then  some (.nx true) else  some (.nx (decide (24<(c.cons.length:Int))))) fun i=>
 if i then
  some false
 else
  zW (σ:=Unit) (
   qR (σ:=Unit) (ρ:=Bool) (fun (y:Nat) (d:Con) (s:Unit)=>
     match s with
     | _=>
     zW (σ:=Bool) (
      xZ (ck ((e.rels.length:Int) - 1)) fun j=>
      xZ (dB d.rel 0 j) fun n=>
      if (!n) then  some (.nx true) else  xZ (ix e.rels d.rel) fun p=>
       if ((d.scope.length:Int) != p.arity) then  some (.nx true) else  xZ (eP d.scope c.vars) fun t=>
        some (.nx (!t))) fun x=>
     if x then
      some (.ret false)
     else
      some (.go ())) c.cons 0 ()) fun _=>
  some true
theorem mN {B:Nat→Prop} {P:Template} {n:Instance} (r:Bool) (d:eS P n=some r) {x:Value} {y:Value} (i:World) (hN:∀ c,B c→c<i.heap.size) (G:Bo B i (Pt 2 xJ) x P) (e:Bo B i (Pt 2 xK) y n):Calls Tryz.prog 19 #[x,y] i (kU (.bool r) i):=by
 unfold eS at d
 refine xW (L:=[(0,x),(1,y)]) func19 rfl rfl rfl (sc rfl (sc rfl sn)) (fun a F=>?_);have H:=Sep.start hN;refine xV (xA 1 F rfl fun a F=>xG (xF (xF ?_)));obtain⟨o1,d,X⟩:=xT d;refine oR (fun a w=>∃ (K:Bool),o1= .nx K∧Sk a 84 [(0,x),(1,y),(25,.bool K)]∧Sep [] B i w []) ?_ ?_
 ·
  refine oM (xA 1 F rfl fun a F=>?_);obtain⟨Q,c1,d⟩:=xB d;refine oK F rfl call43 rfl H (rK Q c1 _ aA (H.a G)) fun a w H F=>xA 2 F rfl fun a F=>?_
  rcases vJ (!Q) with A | A
  ·
   replace d:=vY A d;have F:=F.eb 10 rfl A;refine xA 11 F rfl fun a F=>?_;refine xA 4 F rfl fun a F=>xG ?_;exact⟨true,(zL d),F.su,H⟩
  replace d:=vX A d;have F:=F.eb 10 rfl A;refine xA 1 F rfl fun a F=>oN F rfl rfl e fun a F=>oF (s':=1) fH F rfl rfl e xK.f0 fun a b7 h1 F=>olI isAgg2 F rfl rfl H.sm h1 (fun a i1 F=>?_);obtain⟨R,c2,d⟩:=xB d;refine oK F rfl call44 rfl H (dU R c2 _ aA i1 (show xO (1) by decide) (show xO (10) by decide)) fun a w H F=>xA 3 F rfl fun a F=>?_
  rcases vJ (!R) with C | C
  ·
   replace d:=vY C d;have F:=F.eb 18 rfl C;refine xA 7 F rfl fun a F=>xG ?_;exact⟨true,(zL d),F.su,H⟩
  replace d:=vX C d;have F:=F.eb 18 rfl C;refine xA 1 F rfl fun a F=>oN F rfl rfl e fun a F=>oF (s':=1) aD F rfl rfl e xK.f1 fun a p1 h2 F=>gX isAgg27 F rfl rfl H.sm h2 fun a v2 h3 F=>oL underlying27 F rfl rfl h3 fun a i2 F=>xA 2 F rfl fun a F=>xG ?_;exact⟨(decide (24<(n.cons.length:Int))),(zL d),F.su,H⟩
 rintro a w ⟨K,rfl,F,H⟩
 have d:=xY X;refine xH (qS F rfl (fun I=>?_) (fun I=>?_))
 ·
  replace d:=vY I d;refine xV (xA 1 F rfl fun a F=>xG (xP (oJ (xR F rfl (xX F rfl) ?_))));obtain rfl:=oj d;exact⟨rfl,H.bl⟩
 replace d:=vX I d;refine xS (xH (xF (xV (xA 1 F rfl fun a F=>xG ?_))));obtain⟨S,d,N⟩:=xT d;refine oR (fun a w=>S= .nx ()∧Sk a 84 []∧Sep [] B i w []) ?_ ?_
 ·
  refine oQ ?_;obtain⟨Y,Z,d⟩:=qZ d;refine qY (fun g a w=>∃ (p:Nat) (t:List Con),(p≤n.cons.length∧n.cons.drop p=t)∧t.length=g∧qR Y t p ()=some S∧Sk a 84 [(5,xC (p:Int)),(0,x),(1,y)]∧Sep [] B i w []) n.cons.length ?_ ?_
  ·
   exact⟨0,n.cons,⟨Nat.zero_le _,rfl⟩,rfl,d,F.su,H⟩
  intro g1 a w ⟨p,t,f,a0,d,F,H⟩
  cases t with
  | nil=>
   replace d:=vA d;have q1:=vC f.1 f.2;have l1:=zK q1;refine xF (xV (xA 2 F rfl fun a F=>oN F rfl rfl e fun a F=>oF (s':=1) aD F rfl rfl e xK.f1 fun a p2 h4 F=>gX isAgg27 F rfl rfl H.sm h4 fun a v3 h5 F=>oL underlying27 F rfl rfl h5 fun a i3 F=>xA 1 F rfl fun a F=>zE ?_));refine xH (zS F rfl l1 (qV (qX (qX (kF (xH ?_))))));exact⟨(zL d),F.sub sn,H⟩
  | cons x2 t=>
   subst a0;replace f:=qE f.2;have y1:=vH f.2.1;obtain⟨b8,d,O⟩:=qM d;rw[Z] at d;have l1:=vR f.1;refine xF (xV (xA 2 F rfl fun a F=>oN F rfl rfl e fun a F=>oF (s':=1) aD F rfl rfl e xK.f1 fun a p3 h6 F=>gX isAgg27 F rfl rfl H.sm h6 fun a v4 h7 F=>oL underlying27 F rfl rfl h7 fun a T F=>xA 1 F rfl fun a F=>zE ?_));refine xH (zQ F rfl l1 (xS (xH (xF ?_))));have j1:=k64 (Nat.le_of_lt f.1) T;have m1:=kO f.1 T;refine oQ (xV (xA 1 F rfl fun a F=>oN F rfl rfl e fun a F=>oF (s':=1) aD F rfl rfl e xK.f1 fun a p4 h8 F=>gX isAgg27 F rfl rfl H.sm h8 fun a v5 h9 F=>xA 1 F rfl fun a F=>oI underlying27 sizeOf60 F rfl rfl rfl h9 y1 fun a p5 j F=>xA 1 F rfl fun a F=>zE ?_));refine xH (xF ?_);obtain⟨o3,d,a1⟩:=xT d;refine oR (fun a w=>∃ (M:Bool),o3= .nx M∧Sk a 84 [(0,x),(1,y),(5,xC (p:Int)),(83,.bool M)]∧Sep [] B i w []) ?_ ?_
   ·
    refine xQ H (by kernel_rfl) (by kernel_rfl) (xM F rfl (fun w l=>xL F rfl) fun a F=>qN F rfl rfl j fun a F=>qF (s':=1) mP F rfl rfl j qH.f0 fun a p6 a2 F=>qlI isAgg2 F rfl rfl H.q a2 fun a i5 F=>xM F rfl (fun w l=>xL F rfl) fun a F=>qN F rfl rfl G fun a F=>qF (s':=1) kW F rfl rfl G xJ.f1 fun a p7 a3 F=>qlS isAgg24 F rfl rfl H.q a3 fun a v6 a4 F=>qL underlying24 F rfl rfl a4 (fun a i6 F=>?_));obtain⟨z3,U,d⟩:=xB d;refine xM F rfl (fun w l=>mX F rfl rfl U) (fun a F=>?_);obtain⟨V,c4,d⟩:=xB d;refine fG F rfl call44 rfl (fun w w' h l=>l.through h) (fun w l=>dU V c4 w aA i5 (show xO (0) by decide) (kQ U)) fun a F=>xM F rfl (fun w l=>iC F rfl) fun a F=>xM F rfl (fun w l=>xL F rfl) (fun a F=>?_)
    rcases vJ (!V) with D | D
    ·
     replace d:=vY D d;have F:=F.eb 53 rfl D;refine qD F rfl rfl fun a F=>qD F rfl rfl fun a F=>qD F rfl rfl fun a F=>qD F rfl rfl fun a F=>qD F rfl rfl fun a F=>qD F rfl rfl fun a F=>qD F rfl rfl fun a F=>qD F rfl rfl fun a F=>qD F rfl rfl fun a F=>qD F rfl rfl fun a F=>qD F rfl rfl (fun a F=>?_);refine qD F rfl rfl fun a F=>qD F rfl rfl fun a F=>qD F rfl rfl fun a F=>qD F rfl rfl fun a F=>qD F rfl rfl fun a F=>qD F rfl rfl fun a F=>xM F rfl (fun w l=>aX F rfl rfl) fun a F=>xM F rfl (fun w l=>xL F rfl) fun a F=>qD F rfl rfl fun a F=>qD F rfl rfl fun a F=>qD F rfl rfl (fun a F=>?_);refine qD F rfl rfl fun a F=>qD F rfl rfl fun a F=>qD F rfl rfl fun a F=>qD F rfl rfl fun a F=>qD F rfl rfl fun a F=>qD F rfl rfl fun a F=>qD F rfl rfl fun a F=>xM F rfl (fun w l=>aX F rfl rfl) fun a F=>kT fun w H=>xH ?_;exact⟨true,(zL d),F.su,H⟩
    replace d:=vX D d;have F:=F.eb 53 rfl D;refine xM F rfl (fun w l=>xL F rfl) fun a F=>qN F rfl rfl j fun a F=>qF (s':=1) dD F rfl rfl j qH.f1 fun a p8 a5 F=>qlS isAgg32 F rfl rfl H.q a5 fun a v7 a6 F=>qL underlying32 F rfl rfl a6 fun a i7 F=>xM F rfl (fun w l=>xL F rfl) fun a F=>qN F rfl rfl G fun a F=>qF (s':=1) kW F rfl rfl G xJ.f1 fun a p9 a7 F=>qlS isAgg24 F rfl rfl H.q a7 fun a v8 a8 F=>xM F rfl (fun w l=>xL F rfl) fun a F=>qN F rfl rfl j (fun a F=>?_);refine qF (s':=1) mP F rfl rfl j qH.f0 fun a b9 a9 F=>qlI isAgg2 F rfl rfl H.q a9 (fun a i8 F=>?_);obtain⟨z5,c5,d⟩:=xB d;refine qI underlying24 sizeOf57 F rfl rfl rfl a8 c5 fun a ba aa F=>qF (s':=1) mM F rfl rfl aa qG.f0 fun a bb ab F=>qlI isAgg2 F rfl rfl H.q ab fun a i9 F=>xM F rfl (fun w l=>rS F rfl rfl) fun a F=>xM F rfl (fun w l=>bO F rfl rfl) fun a F=>xM F rfl (fun w l=>xL F rfl) (fun a F=>?_)
    rcases vJ ((x2.scope.length:Int) != z5.arity) with E | E
    ·
     replace d:=vY E d;have F:=F.eb 72 rfl E;refine qD F rfl rfl fun a F=>qD F rfl rfl fun a F=>qD F rfl rfl fun a F=>qD F rfl rfl fun a F=>qD F rfl rfl fun a F=>qD F rfl rfl fun a F=>qD F rfl rfl fun a F=>qD F rfl rfl fun a F=>qD F rfl rfl fun a F=>qD F rfl rfl fun a F=>xM F rfl (fun w l=>aX F rfl rfl) (fun a F=>?_);refine kT fun w H=>xH ?_;exact⟨true,(zL d),F.su,H⟩
    replace d:=vX E d;have F:=F.eb 72 rfl E;refine xM F rfl (fun w l=>xL F rfl) fun a F=>qN F rfl rfl j fun a F=>qF (s':=1) dD F rfl rfl j qH.f1 fun a bc ac F=>qlS isAgg32 F rfl rfl H.q ac fun a v9 ad F=>xM F rfl (fun w l=>xL F rfl) fun a F=>qN F rfl rfl e fun a F=>qF (s':=1) fH F rfl rfl e xK.f0 fun a be ae F=>qlI isAgg2 F rfl rfl H.q ae (fun a af F=>?_);obtain⟨W,c6,d⟩:=xB d;refine fG F rfl call45 rfl (fun w w' h l=>l.through h) (fun w l=>sQ W c6 w aA ((H.go l).a ad) af) fun a F=>xM F rfl (fun w l=>iC F rfl) fun a F=>xM F rfl (fun w l=>bO F rfl rfl) fun a F=>kT fun w H=>xH ?_;exact⟨(!W),(zL d),F.su,H⟩
   rintro a w ⟨M,rfl,F,H⟩
   have d:=xY a1;refine xH (qS F rfl (fun J=>?_) (fun J=>?_))
   ·
    replace d:=vY J d;refine xV (xA 1 F rfl fun a F=>xG (xP (vO (oJ (oJ ?_)))));replace d:=kK d O;refine vO (oJ ?_);replace d:=kI d N;refine oJ (xR F rfl (xX F rfl) ?_);obtain rfl:=oj d;exact⟨rfl,H.bl⟩
   replace d:=vX J d;refine xS (vK (xH (oM (xA 1 F rfl fun a F=>zG F rfl rfl rfl m1 fun a F=>xA 1 F rfl fun a F=>xG ?_))));replace d:=zM d O;exact⟨_,Nat.lt_succ_self _,p+1,t,⟨f.1,f.2.2⟩,rfl,d,F.su,H⟩
 rintro a w ⟨rfl,F,H⟩
 have d:=xY N;refine xH (xV (xA 1 F rfl fun a F=>xG (xP (xR F rfl (xX F rfl) ?_))));obtain rfl:=oj d;exact⟨rfl,H.bl⟩
def iI (d:Int):Option Rel:=
 zW (σ:=(List (List Int))) (
  dQ (σ:=(List (List Int))) (ρ:=Rel) (fun(c:Nat) (e:(List (List Int)))=>
   xZ (ap e ([[(c:Int),(c:Int)]])) fun f=>
   some (.go f)) d.toNat 0 []) fun h=>
 some ((Rel.mk 2 h))
theorem tU {B:Nat→Prop} {f:Int} (r:Rel) (d:iI f=some r)  (i:World) (O:∀ c,B c→c<i.heap.size) (C:xO f):Calls Tryz.prog 20 #[xC f] i (Gv (fun v w'=>∃ (D:Value),v= .agg #[xC r.arity,D]∧Sep [] B i w' [rl 1 (qK 1 xI) 32 D r.tuples]∧xO r.arity)):=by
 unfold iI at d
 refine xW (L:=[(0,xC f)]) func20 rfl rfl rfl (sc rfl sn) (fun a F=>?_);have H:=Sep.start O;refine xV (oA zeroValue57 F rfl rfl H fun a w n H F=>vE (kY underlying57 zeroValue57 (fun w=>by simp [sizeOf2,sizeOf55];rfl) F rfl rfl rfl rfl rfl (oc rfl on) rfl rfl fun a F=>oA zeroValue57 F rfl rfl H fun a w p H F=>eX (vs:=[xC 2,qQ]) sizeOf57 F rfl rfl rfl H (oc rfl (oc rfl on)) rfl rfl fun w H=>zE ?_));refine xH (xF (xV (xA 1 F rfl fun a F=>xG ?_)));obtain⟨E,d,J⟩:=xT d;refine oR (fun a w=>∃ (A:List (List Int)) (h:Value),E= .nx A∧Sk a 20 [(2,qC n),(3,qC p)]∧Sep [] B i w [rl 1 (qK 1 xI) 32 h A,bx p [xC 2,h] 57,bx n [xC 0,qQ] 57]) ?_ ?_
 ·
  refine oQ ?_;obtain⟨K,M,d⟩:=fT d;refine qY (fun g a w=>∃ (e:Nat) (t:List (List Int)) (x:Value),e+g=f.toNat∧dQ K g e t=some E∧Sk a 20 [(4,xC (e:Int)),(0,xC f),(2,qC n),(3,qC p)]∧Sep [] B i w [rl 1 (qK 1 xI) 32 x t,bx p [xC 2,x] 57,bx n [xC 0,qQ] 57]) f.toNat ?_ ?_
  ·
   exact⟨0,[],qQ,(Nat.zero_add _),d,F.su,(H.nl 1 (qK 1 xI) 32)⟩
  intro G a w ⟨e,t,x,j,d,F,H⟩
  cases G with
  | zero=>
   replace d:=eD d;have l1:=iH j;refine xF (xV (xA 3 F rfl fun a F=>xG (zS F rfl l1 (qV (qX ?_)))));refine qX (kF (xH ?_));exact⟨t,x,(zL d),F.su,H⟩
  | succ G=>
   obtain⟨U,d,N⟩:=eE d;rw[M] at d;have l1:=fS j;refine xF (xV (xA 3 F rfl fun a F=>xG (zQ F rfl l1 (xS (xH ?_)))));refine xF ?_;have I:=yN j C;have P:=lH j C;refine oQ (oM (oD bJ F rfl rfl rfl fun a F=>oB isAgg55 F rfl rfl (H.b 1 rfl) rfl fun a F=>xA 2 F rfl fun a F=>oRI (xs:=[.tmp 13,.tmp 14]) (l:=[(e:Int),(e:Int)]) underlying32 sizeOf2 zeroValue2 rfl F rfl rfl rfl rfl rfl rfl (by simp only[List.forall_mem_cons,List.not_mem_nil,false_implies,implies_true,and_true];exact⟨I,I⟩) H (fun a w V H F=>?_)));have H:=H.os;refine dY (R:=(qK 1 xI)) (y:=[(e:Int),(e:Int)]) underlying55 sizeOf32 zeroValue32 rfl rfl F rfl rfl H El.sl (fun a w W H F=>?_);obtain⟨Q,S,d⟩:=xB d;refine oPL (sz:=1) (R:=(qK 1 xI)) (z:=(qQ)) (bytes:=24) underlying55 (by kernel_rfl) rfl rfl F rfl rfl rfl (H.s [1,0,2,3] rfl rfl) S fun a w T H F=>oD bJ F rfl rfl rfl fun a F=>oW sizeOf55 F rfl rfl rfl (H.s [1,0,2] rfl rfl) ((H.s [1,0,2] rfl rfl).l 1 rfl).one rfl rfl fun w H=>zE (vK (xH (oM (xA 1 F rfl fun a F=>zG F rfl rfl rfl P fun a F=>xA 1 F rfl fun a F=>zE ?_))));refine xH ?_;replace d:=zM d N;exact⟨_,Nat.lt_succ_self _,e+1,Q,T,(by omega),d,F.su,(H.s [1,0,2] rfl rfl)⟩
 rintro a w ⟨A,h,rfl,F,H⟩
 have d:=xY J;refine xH (xV (fJ isAgg57 sizeOf57 F rfl rfl (H.b 1 rfl) rfl rfl fun a F=>eX (vs:=[xC 2,h]) sizeOf57 F rfl rfl rfl (H.s [2,0,1] rfl rfl) (oc rfl (oc ((H.s [2,0,1] rfl rfl).l 1 rfl).one on)) rfl rfl fun w H=>xG (xP (xR F rfl (kX (arr:=#[xC 2,h]) F isAgg57 sizeOf57 rfl (H.b 0 rfl)) ?_))));obtain rfl:=oj d;exact⟨_,rfl,h,rfl,(H.s [1] rfl rfl),(show xO (2) by decide)⟩
end Go.Proofs.YtghihmkhdhjhiaaGreatDoor
