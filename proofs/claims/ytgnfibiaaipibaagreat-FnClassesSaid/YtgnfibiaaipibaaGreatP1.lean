import Derived.Test.YtgnfibiaaipibaaGreatP0
namespace Go.Proofs.YtgnfibiaaipibaaGreat
open Go.Proofs.Tryz
set_option maxHeartbeats 1000000
set_option linter.unusedVariables false
set_option linter.unusedSimpArgs false
set_option maxRecDepth 100000
open Go.RowKit
def cC (c d e:Int):Option Bool:=
 vT (σ:=Bool) (
  if (decide (d≤c)) then  some (.nx (decide (c≤e))) else  some (.nx false)) fun f=>
 some f
theorem cG {B:Nat→Prop} {e h i:Int} (r:Bool) (d:cC e h i=some r)  (j:World) (t:∀ c,B c→c<j.heap.size) (y:xZ e) (z:xZ h) (A:xZ i):Calls Tryz.prog 86 #[xG e,xG h,xG i] j (zO (.bool r) j):=by
 unfold cC at d
 refine xV (L:=[(0,xG e),(1,xG h),(2,xG i)]) func86 rfl rfl rfl (sc rfl (sc rfl (sc rfl sn))) (fun a F=>?_);have H:=Sep.start t;refine xP (xA 1 F rfl fun a F=>xJ (xC ?_));obtain⟨x,d,p⟩:=xK d;refine xX (fun a w=>∃ (n:Bool),x= .nx n∧Sk a 15 [(6,.bool n)]∧Sep [] B j w []) ?_ ?_
 ·
  refine xU (xA 4 F rfl fun a F=>?_)
  rcases qU (decide (h≤e)) with f | f
  ·
   replace d:=vR f d;have F:=F.eb 10 rfl f;refine xA 5 F rfl fun a F=>xJ ?_;exact⟨(decide (e≤i)),(vE d),F.su,H⟩
  replace d:=vQ f d;have F:=F.eb 10 rfl f;refine xA 5 F rfl fun a F=>xJ ?_;exact⟨false,(vE d),F.su,H⟩
 rintro a w ⟨n,rfl,F,H⟩
 have d:=xN p;refine xF (xT (xS F rfl (oD F rfl) ?_));obtain rfl:=oj d;exact⟨rfl,H.bl⟩
def fB (c:Int):Option Bool:=
 xY (cC c 1 4) fun d=>
 some d
theorem spec_l01Size_c {B:Nat→Prop} {d:Int} (r:Bool) (e:fB d=some r)  (f:World) (i:∀ c,B c→c<f.heap.size) (h:xZ d):Calls Tryz.prog 84 #[xG d] f (zO (.bool r) f):=by
 unfold fB at e
 refine xV (L:=[(0,xG d)]) func84 rfl rfl rfl (sc rfl sn) (fun a F=>?_);have H:=Sep.start i;refine xP (xA 1 F rfl fun a F=>qO (xA 1 F rfl fun a F=>?_));obtain⟨j,n,e⟩:=xB e;refine oK F rfl call86 rfl H (cG j n _ aA h (show xZ (1) by decide) (show xZ (4) by decide)) fun a w H F=>xA 1 F rfl fun a F=>xJ (xT (xS F rfl (oD F rfl) ?_));obtain rfl:=oj e;exact⟨rfl,H.bl⟩
def gQ (c:Int):Option Bool:=
 xY (cC c 1 4) fun d=>
 some d
theorem spec_l01Arity_c {B:Nat→Prop} {d:Int} (r:Bool) (e:gQ d=some r)  (f:World) (i:∀ c,B c→c<f.heap.size) (h:xZ d):Calls Tryz.prog 88 #[xG d] f (zO (.bool r) f):=by
 unfold gQ at e
 refine xV (L:=[(0,xG d)]) func88 rfl rfl rfl (sc rfl sn) (fun a F=>?_);have H:=Sep.start i;refine xP (xA 1 F rfl fun a F=>qO (xA 1 F rfl fun a F=>?_));obtain⟨j,n,e⟩:=xB e;refine oK F rfl call86 rfl H (cG j n _ aA h (show xZ (1) by decide) (show xZ (4) by decide)) fun a w H F=>xA 1 F rfl fun a F=>xJ (xT (xS F rfl (oD F rfl) ?_));obtain rfl:=oj e;exact⟨rfl,H.bl⟩
def dZ (d e:Int) (c:List Int):Option Bool:=
 vT (σ:=Unit) (
  qJ (σ:=Unit) (ρ:=Bool) (fun (j:Nat) (f:Int) (s:Unit)=>
    match s with
    | _=>
    xY (ck (d - 1)) fun h=>
    xY (cC f 0 h) fun i=>
    if (!i) then
     some (.ret false)
    else
     some (.go ())) c 0 ()) fun _=>
 some (((c.length:Int)==e))
theorem spec_l01Tuple_c {B:Nat→Prop} {p h:Int} {i:List Int} (r:Bool) (d:dZ p h i=some r) {t:Value} (j:World) (M:∀ c,B c→c<j.heap.size) (U:xZ p) (V:xZ h) (x:Bo B j (Sl 1 xH) t i):Calls Tryz.prog 43 #[xG p,xG h,t] j (zO (.bool r) j):=by
 unfold dZ at d
 refine xV (L:=[(0,xG p),(1,xG h),(2,t)]) func43 rfl rfl rfl (sc rfl (sc rfl (sc rfl sn))) (fun a F=>?_);have H:=Sep.start M;refine xP (xA 1 F rfl fun a F=>xJ (xC (xP (xA 1 F rfl fun a F=>xJ ?_))));obtain⟨D,d,A⟩:=xK d;refine xX (fun a w=>D= .nx ()∧Sk a 26 [(1,xG h),(2,t)]∧Sep [] B j w []) ?_ ?_
 ·
  refine xW ?_;obtain⟨J,K,d⟩:=qE d;refine oU (fun g a w=>∃ (n:Nat) (f:List Int),(n≤i.length∧i.drop n=f)∧f.length=g∧qJ J f n ()=some D∧Sk a 26 [(7,xG (n:Int)),(0,xG p),(1,xG h),(2,t)]∧Sep [] B j w []) i.length ?_ ?_
  ·
   exact⟨0,i,⟨Nat.zero_le _,rfl⟩,rfl,d,F.su,H⟩
  intro X a w ⟨n,f,e,I,d,F,H⟩
  cases f with
  | nil=>
   replace d:=qH d;have N:=qG e.1 e.2;have z:=vA N;refine xC (xP (xA 2 F rfl fun a F=>oL underlying25 F rfl rfl x fun a Y F=>xA 1 F rfl fun a F=>xJ (qT F rfl z (oM ?_))));refine oR (oR (vH (xF ?_)));exact⟨(vE d),F.su,H⟩
  | cons Z f=>
   subst I;replace e:=oO e.2;have O:=oZ e.2.1;obtain⟨W,d,C⟩:=oV d;rw[K] at d;have z:=qM e.1;refine xC (xP (xA 2 F rfl fun a F=>oL underlying25 F rfl rfl x fun a E F=>xA 1 F rfl fun a F=>xJ (qV F rfl z (xL ?_))));refine xF (xC ?_);have j1:=fE (Nat.le_of_lt e.1) E;have P:=zC e.1 E;refine xW (xP (xA 2 F rfl fun a F=>oI underlying25 sizeOf2 F rfl rfl rfl x O fun a p1 Q F=>aN isAgg2 F rfl rfl H.sm Q fun a R F=>xA 1 F rfl fun a F=>?_));obtain⟨z1,G,d⟩:=xB d;refine iS F rfl rfl rfl G (fun a F=>?_);obtain⟨S,T,d⟩:=xB d;refine oK F rfl call86 rfl H (cG S T _ aA R (show xZ (0) by decide) (kG G)) fun a w H F=>xA 1 F rfl fun a F=>xJ (qP F rfl (fun y=>?_) (fun y=>?_))
   ·
    replace d:=vR y d;refine xP (xA 1 F rfl fun a F=>xJ (xT (vJ (oE (oE ?_)))));replace d:=zR d C;refine vJ (oE ?_);replace d:=zQ d A;refine oE (xS F rfl (oD F rfl) ?_);obtain rfl:=oj d;exact⟨rfl,H.bl⟩
   replace d:=vQ y d;refine xL (qS (xF (xU (xA 1 F rfl fun a F=>qQ F rfl rfl rfl P fun a F=>xA 1 F rfl fun a F=>xJ ?_))));replace d:=qX d C;exact⟨_,Nat.lt_succ_self _,n+1,f,⟨e.1,e.2.2⟩,rfl,d,F.su,H⟩
 rintro a w ⟨rfl,F,H⟩
 have d:=xN A;refine xF (xP (xA 1 F rfl fun a F=>oL underlying25 F rfl rfl x fun a i4 F=>xA 3 F rfl fun a F=>xJ (xT ?_)));refine xS F rfl (oD F rfl) ?_;obtain rfl:=oj d;exact⟨rfl,H.bl⟩
def eM (e f:List Int):Option Bool:=
 vT (σ:=Unit) (
  qJ (σ:=Unit) (ρ:=Bool) (fun (h:Nat) (c:Int) (s:Unit)=>
    match s with
    | _=>
    xY (ix f (h:Int)) fun d=>
    if (c != d) then
     some (.ret ((decide (c<d))))
    else
     some (.go ())) e 0 ()) fun _=>
 some false
theorem spec_l01Before_c {B:Nat→Prop} {i C:List Int} (r:Bool) (d:eM i C=some r) {n:Value} {p:Value} (f:World) (O:∀ c,B c→c<f.heap.size) (t:Bo B f (Sl 1 xH) n i) (D:Bo B f (Sl 1 xH) p C):Calls Tryz.prog 89 #[n,p] f (zO (.bool r) f):=by
 unfold eM at d
 refine xV (L:=[(0,n),(1,p)]) func89 rfl rfl rfl (sc rfl (sc rfl sn)) (fun a F=>?_);have H:=Sep.start O;refine xP (xA 1 F rfl fun a F=>xJ (xC (xP (xA 1 F rfl fun a F=>xJ ?_))));obtain⟨E,d,z⟩:=xK d;refine xX (fun a w=>E= .nx ()∧Sk a 30 []∧Sep [] B f w []) ?_ ?_
 ·
  refine xW ?_;obtain⟨K,M,d⟩:=qE d;refine oU (fun g a w=>∃ (j:Nat) (h:List Int),(j≤i.length∧i.drop j=h)∧h.length=g∧qJ K h j ()=some E∧Sk a 30 [(5,xG (j:Int)),(0,n),(1,p)]∧Sep [] B f w []) i.length ?_ ?_
  ·
   exact⟨0,i,⟨Nat.zero_le _,rfl⟩,rfl,d,F.su,H⟩
  intro W a w ⟨j,h,e,N,d,F,H⟩
  cases h with
  | nil=>
   replace d:=qH d;have P:=qG e.1 e.2;have y:=vA P;refine xC (xP (xA 2 F rfl fun a F=>oL underlying25 F rfl rfl t fun a X F=>xA 1 F rfl fun a F=>xJ (qT F rfl y (oM ?_))));refine oR (oR (vH (xF ?_)));exact⟨(vE d),F.sub sn,H⟩
  | cons Y h=>
   subst N;replace e:=oO e.2;have G:=oZ e.2.1;obtain⟨V,d,A⟩:=oV d;rw[M] at d;have y:=qM e.1;refine xC (xP (xA 2 F rfl fun a F=>oL underlying25 F rfl rfl t fun a I F=>xA 1 F rfl fun a F=>xJ (qV F rfl y (xL ?_))));refine xF (xC ?_);have Z:=fE (Nat.le_of_lt e.1) I;have Q:=zC e.1 I;refine xW (xC (xQ H (by kernel_rfl) (by kernel_rfl) (xR F rfl (fun w l=>xM F rfl) fun a F=>xR F rfl (fun w l=>xM F rfl) fun a F=>qI underlying25 sizeOf2 F rfl rfl rfl t G fun a p1 R F=>iB isAgg2 F rfl rfl H.q R fun a i3 F=>xR F rfl (fun w l=>xM F rfl) fun a F=>xR F rfl (fun w l=>xM F rfl) (fun a F=>?_))));obtain⟨z1,J,d⟩:=xB d;refine qI underlying25 sizeOf2 F rfl rfl rfl D J fun a p2 S F=>iB isAgg2 F rfl rfl H.q S fun a i4 F=>xR F rfl (fun w l=>r_neq F rfl rfl) fun a F=>kA fun w H=>xF (qP F rfl (fun x=>?_) (fun x=>?_))
   ·
    replace d:=vR x d;refine xC (xQ H (by kernel_rfl) (by kernel_rfl) (xR F rfl (fun w l=>xM F rfl) fun a F=>xR F rfl (fun w l=>xM F rfl) fun a F=>qI underlying25 sizeOf2 F rfl rfl rfl t G fun a p3 T F=>iB isAgg2 F rfl rfl H.q T fun a i5 F=>xR F rfl (fun w l=>xM F rfl) fun a F=>xR F rfl (fun w l=>xM F rfl) fun a F=>qI underlying25 sizeOf2 F rfl rfl rfl D J fun a p4 U F=>iB isAgg2 F rfl rfl H.q U fun a i6 F=>xR F rfl (fun w l=>r_lss F rfl rfl) (fun a F=>?_)));refine xR F rfl (fun w l=>zM F rfl) fun a F=>kA fun w H=>xF (xT (vJ (oE (oE ?_))));replace d:=zR d A;refine vJ (oE ?_);replace d:=zQ d z;refine oE (xS F rfl (oD F rfl) ?_);obtain rfl:=oj d;exact⟨rfl,H.bl⟩
   replace d:=vQ x d;refine xL (qS (xF (xU (xA 1 F rfl fun a F=>qQ F rfl rfl rfl Q fun a F=>xA 1 F rfl fun a F=>xJ ?_))));replace d:=qX d A;exact⟨_,Nat.lt_succ_self _,j+1,h,⟨e.1,e.2.2⟩,rfl,d,F.su,H⟩
 rintro a w ⟨rfl,F,H⟩
 have d:=xN z;refine xF (xP (xA 1 F rfl fun a F=>xJ (xT (xS F rfl (oD F rfl) ?_))));obtain rfl:=oj d;exact⟨rfl,H.bl⟩
def fA (d:Int) (c:Rel):Option Bool:=
 vT (σ:=Bool) (
  xY (fB d) fun h=>
  if (!h) then  some (.nx true) else  xY (gQ c.arity) fun i=>
   some (.nx (!i))) fun j=>
 if j then
  some false
 else
  vT (σ:=Unit) (
   qJ (σ:=Unit) (ρ:=Bool) (fun (e:Nat) (f:(List Int)) (s:Unit)=>
     match s with
     | _=>
     vT (σ:=Bool) (
      xY (dZ d c.arity f) fun n=>
      if (!n) then  some (.nx true) else  if (decide (0<(e:Int))) then  xY (ck ((e:Int) - 1)) fun p=>
        xY (ix c.tuples p) fun t=>
        xY (eM t f) fun x=>
        some (.nx (!x)) else  some (.nx false)) fun y=>
     if y then
      some (.ret false)
     else
      some (.go ())) c.tuples 0 ()) fun _=>
  some true
theorem spec_l01Ok_c {B:Nat→Prop} {n:Int} {t:Rel} (r:Bool) (d:fA n t=some r) {x:Value} (i:World) (hN:∀ c,B c→c<i.heap.size) (J:xZ n) (e:Bo B i (Pt 2 qD) x t):Calls Tryz.prog 45 #[xG n,x] i (zO (.bool r) i):=by
 unfold fA at d
 refine xV (L:=[(0,xG n),(1,x)]) func45 rfl rfl rfl (sc rfl (sc rfl sn)) (fun a F=>?_);have H:=Sep.start hN;refine xP (xA 1 F rfl fun a F=>xJ (xC (xC ?_)));obtain⟨o1,d,U⟩:=xK d;refine xX (fun a w=>∃ (E:Bool),o1= .nx E∧Sk a 63 [(0,xG n),(1,x),(16,.bool E)]∧Sep [] B i w []) ?_ ?_
 ·
  refine xU (xA 1 F rfl fun a F=>?_);obtain⟨N,c1,d⟩:=xB d;refine oK F rfl call84 rfl H (spec_l01Size_c N c1 _ aA J) fun a w H F=>xA 2 F rfl fun a F=>?_
  rcases qU (!N) with y | y
  ·
   replace d:=vR y d;have F:=F.eb 9 rfl y;refine xA 7 F rfl fun a F=>xJ ?_;exact⟨true,(vE d),F.su,H⟩
  replace d:=vQ y d;have F:=F.eb 9 rfl y;refine xA 1 F rfl fun a F=>oN F rfl rfl e fun a F=>oF (s':=1) cB F rfl rfl e qD.f0 fun a p1 h1 F=>aN isAgg2 F rfl rfl H.sm h1 (fun a i1 F=>?_);obtain⟨O,c2,d⟩:=xB d;refine oK F rfl call88 rfl H (spec_l01Arity_c O c2 _ aA i1) fun a w H F=>xA 2 F rfl fun a F=>xJ ?_;exact⟨(!O),(vE d),F.su,H⟩
 rintro a w ⟨E,rfl,F,H⟩
 have d:=xN U;refine xF (qP F rfl (fun C=>?_) (fun C=>?_))
 ·
  replace d:=vR C d;refine xP (xA 1 F rfl fun a F=>xJ (xT (oE (xS F rfl (oD F rfl) ?_))));obtain rfl:=oj d;exact⟨rfl,H.bl⟩
 replace d:=vQ C d;refine xL (xF (xC (xP (xA 1 F rfl fun a F=>xJ ?_))));obtain⟨P,d,K⟩:=xK d;refine xX (fun a w=>P= .nx ()∧Sk a 63 []∧Sep [] B i w []) ?_ ?_
 ·
  refine xW ?_;obtain⟨V,W,d⟩:=qE d;refine oU (fun g a w=>∃ (j:Nat) (p:List (List Int)),(j≤t.tuples.length∧t.tuples.drop j=p)∧p.length=g∧qJ V p j ()=some P∧Sk a 63 [(5,xG (j:Int)),(0,xG n),(1,x)]∧Sep [] B i w []) t.tuples.length ?_ ?_
  ·
   exact⟨0,t.tuples,⟨Nat.zero_le _,rfl⟩,rfl,d,F.su,H⟩
  intro g1 a w ⟨j,p,f,X,d,F,H⟩
  cases p with
  | nil=>
   replace d:=qH d;have q1:=qG f.1 f.2;have G:=vA q1;refine xC (xP (xA 2 F rfl fun a F=>oN F rfl rfl e fun a F=>oF (s':=1) vW F rfl rfl e qD.f1 fun a p2 h2 F=>aY isAgg45 F rfl rfl H.sm h2 fun a v2 h3 F=>oL underlying45 F rfl rfl h3 fun a i2 F=>xA 1 F rfl fun a F=>oY ?_));refine xF (qT F rfl G (oM (oR (oR (vH (xF ?_))))));exact⟨(vE d),F.sub sn,H⟩
  | cons x2 p=>
   subst X;replace f:=oO f.2;have Q:=oZ f.2.1;obtain⟨ax,d,M⟩:=oV d;rw[W] at d;have G:=qM f.1;refine xC (xP (xA 2 F rfl fun a F=>oN F rfl rfl e fun a F=>oF (s':=1) vW F rfl rfl e qD.f1 fun a p3 h4 F=>aY isAgg45 F rfl rfl H.sm h4 fun a v3 h5 F=>oL underlying45 F rfl rfl h5 fun a R F=>xA 1 F rfl fun a F=>oY ?_));refine xF (qV F rfl G (xL (xF (xC ?_))));have j1:=fE (Nat.le_of_lt f.1) R;have m1:=zC f.1 R;refine xW (xC ?_);obtain⟨o3,d,Y⟩:=xK d;refine xX (fun a w=>∃ (I:Bool),o3= .nx I∧Sk a 63 [(0,xG n),(1,x),(5,xG (j:Int)),(62,.bool I)]∧Sep [] B i w []) ?_ ?_
   ·
    refine xQ H (by kernel_rfl) (by kernel_rfl) (xR F rfl (fun w l=>xM F rfl) fun a F=>xR F rfl (fun w l=>xM F rfl) fun a F=>qN F rfl rfl e fun a F=>qF (s':=1) cB F rfl rfl e qD.f0 fun a p4 h6 F=>iB isAgg2 F rfl rfl H.q h6 fun a i4 F=>xR F rfl (fun w l=>xM F rfl) fun a F=>qN F rfl rfl e fun a F=>qF (s':=1) vW F rfl rfl e qD.f1 fun a p5 h7 F=>qlS isAgg45 F rfl rfl H.q h7 fun a v4 h8 F=>xR F rfl (fun w l=>xM F rfl) (fun a F=>?_));refine qI underlying45 sizeOf25 F rfl rfl rfl h8 Q fun a p6 h9 F=>qlS isAgg25 F rfl rfl H.q h9 (fun a v5 Z F=>?_);obtain⟨S,c3,d⟩:=xB d;refine dD F rfl call43 rfl (fun w w' h l=>l.through h) (fun w l=>spec_l01Tuple_c S c3 w aA J i4 ((H.go l).a Z)) fun a F=>xR F rfl (fun w l=>fW F rfl) fun a F=>xR F rfl (fun w l=>xM F rfl) (fun a F=>?_)
    rcases qU (!S) with z | z
    ·
     replace d:=vR z d;have F:=F.eb 40 rfl z;refine qK F rfl rfl fun a F=>qK F rfl rfl fun a F=>qK F rfl rfl fun a F=>qK F rfl rfl fun a F=>qK F rfl rfl fun a F=>qK F rfl rfl fun a F=>qK F rfl rfl fun a F=>qK F rfl rfl fun a F=>qK F rfl rfl fun a F=>qK F rfl rfl fun a F=>qK F rfl rfl (fun a F=>?_);refine qK F rfl rfl fun a F=>qK F rfl rfl fun a F=>qK F rfl rfl fun a F=>qK F rfl rfl fun a F=>qK F rfl rfl fun a F=>qK F rfl rfl fun a F=>qK F rfl rfl fun a F=>qK F rfl rfl fun a F=>qK F rfl rfl fun a F=>qK F rfl rfl fun a F=>xR F rfl (fun w l=>aU F rfl rfl) (fun a F=>?_);refine kA fun w H=>xF ?_;exact⟨true,(vE d),F.su,H⟩
    replace d:=vQ z d;have F:=F.eb 40 rfl z;refine xR F rfl (fun w l=>xM F rfl) fun a F=>xR F rfl (fun w l=>r_gtr F rfl rfl) fun a F=>xR F rfl (fun w l=>xM F rfl) (fun a F=>?_)
    rcases qU (decide (0<(j:Int))) with A | A
    ·
     replace d:=vR A d;have F:=F.eb 43 rfl A;refine xR F rfl (fun w l=>xM F rfl) fun a F=>qN F rfl rfl e fun a F=>qF (s':=1) vW F rfl rfl e qD.f1 fun a p7 a0 F=>qlS isAgg45 F rfl rfl H.q a0 fun a v6 a1 F=>xR F rfl (fun w l=>xM F rfl) (fun a F=>?_);obtain⟨z4,c4,d⟩:=xB d;refine xR F rfl (fun w l=>r_sub F rfl rfl c4) (fun a F=>?_);obtain⟨z5,c5,d⟩:=xB d;refine qI underlying45 sizeOf25 F rfl rfl rfl a1 c5 fun a p8 a2 F=>qlS isAgg25 F rfl rfl H.q a2 fun a v7 a3 F=>xR F rfl (fun w l=>xM F rfl) fun a F=>qN F rfl rfl e fun a F=>qF (s':=1) vW F rfl rfl e qD.f1 fun a p9 a4 F=>qlS isAgg45 F rfl rfl H.q a4 fun a v8 a5 F=>xR F rfl (fun w l=>xM F rfl) fun a F=>qI underlying45 sizeOf25 F rfl rfl rfl a5 Q fun a ay a6 F=>qlS isAgg25 F rfl rfl H.q a6 (fun a v9 a7 F=>?_);obtain⟨T,c6,d⟩:=xB d;refine dD F rfl call89 rfl (fun w w' h l=>l.through h) (fun w l=>spec_l01Before_c T c6 w aA ((H.go l).a a3) ((H.go l).a a7)) fun a F=>xR F rfl (fun w l=>fW F rfl) fun a F=>xR F rfl (fun w l=>aU F rfl rfl) fun a F=>xR F rfl (fun w l=>aF F rfl rfl) fun a F=>kA fun w H=>xF ?_;exact⟨(!T),(vE d),F.su,H⟩
    replace d:=vQ A d;have F:=F.eb 43 rfl A;refine qK F rfl rfl fun a F=>qK F rfl rfl fun a F=>qK F rfl rfl fun a F=>qK F rfl rfl fun a F=>qK F rfl rfl fun a F=>qK F rfl rfl fun a F=>qK F rfl rfl fun a F=>qK F rfl rfl fun a F=>qK F rfl rfl fun a F=>qK F rfl rfl fun a F=>qK F rfl rfl (fun a F=>?_);refine qK F rfl rfl fun a F=>qK F rfl rfl fun a F=>qK F rfl rfl fun a F=>qK F rfl rfl fun a F=>qK F rfl rfl fun a F=>qK F rfl rfl fun a F=>xR F rfl (fun w l=>aF F rfl rfl) fun a F=>xR F rfl (fun w l=>aF F rfl rfl) fun a F=>kA fun w H=>xF ?_;exact⟨false,(vE d),F.su,H⟩
   rintro a w ⟨I,rfl,F,H⟩
   have d:=xN Y;refine xF (qP F rfl (fun D=>?_) (fun D=>?_))
   ·
    replace d:=vR D d;refine xP (xA 1 F rfl fun a F=>xJ (xT (vJ (oE (oE ?_)))));replace d:=zR d M;refine vJ (oE ?_);replace d:=zQ d K;refine oE (xS F rfl (oD F rfl) ?_);obtain rfl:=oj d;exact⟨rfl,H.bl⟩
   replace d:=vQ D d;refine xL (qS (xF (xU (xA 1 F rfl fun a F=>qQ F rfl rfl rfl m1 fun a F=>xA 1 F rfl fun a F=>xJ ?_))));replace d:=qX d M;exact⟨_,Nat.lt_succ_self _,j+1,p,⟨f.1,f.2.2⟩,rfl,d,F.su,H⟩
 rintro a w ⟨rfl,F,H⟩
 have d:=xN K;refine xF (xP (xA 1 F rfl fun a F=>xJ (xT (xS F rfl (oD F rfl) ?_))));obtain rfl:=oj d;exact⟨rfl,H.bl⟩
def cT (c:Template):Option Bool:=
 vT (σ:=Unit) (
  qJ (σ:=Unit) (ρ:=Bool) (fun (i:Nat) (d:Rel) (s:Unit)=>
    match s with
    | _=>
    xY (fA c.size d) fun e=>
    if (!e) then
     some (.ret false)
    else
     some (.go ())) c.rels 0 ()) fun _=>
 vT (σ:=Bool) (
  xY (fB c.size) fun f=>
  if f then  some (.nx (decide ((c.rels.length:Int)≤6))) else  some (.nx false)) fun h=>
 some h
theorem spec_l01Template_c {B:Nat→Prop} {i:Template} (r:Bool) (d:cT i=some r) {x:Value} (j:World) (Q:∀ c,B c→c<j.heap.size) (e:Bo B j (Pt 2 xI) x i):Calls Tryz.prog 107 #[x] j (zO (.bool r) j):=by
 unfold cT at d
 refine xV (L:=[(0,x)]) func107 rfl rfl rfl (sc rfl sn) (fun a F=>?_);have H:=Sep.start Q;refine xP (xA 1 F rfl fun a F=>xJ (xC (xP (xA 1 F rfl fun a F=>xJ ?_))));obtain⟨E,d,C⟩:=xK d;refine xX (fun a w=>E= .nx ()∧Sk a 38 [(0,x)]∧Sep [] B j w []) ?_ ?_
 ·
  refine xW ?_;obtain⟨J,K,d⟩:=qE d;refine oU (fun g a w=>∃ (p:Nat) (n:List Rel),(p≤i.rels.length∧i.rels.drop p=n)∧n.length=g∧qJ J n p ()=some E∧Sk a 38 [(3,xG (p:Int)),(0,x)]∧Sep [] B j w []) i.rels.length ?_ ?_
  ·
   exact⟨0,i.rels,⟨Nat.zero_le _,rfl⟩,rfl,d,F.su,H⟩
  intro g1 a w ⟨p,n,f,M,d,F,H⟩
  cases n with
  | nil=>
   replace d:=qH d;have R:=qG f.1 f.2;have z:=vA R;refine xC (xP (xA 2 F rfl fun a F=>oN F rfl rfl e fun a F=>oF (s':=1) kR F rfl rfl e xI.f1 fun a p1 S F=>aY isAgg29 F rfl rfl H.sm S fun a a9 T F=>oL underlying29 F rfl rfl T fun a i1 F=>xA 1 F rfl fun a F=>oY ?_));refine xF (qT F rfl z (oM (oR (oR (vH (xF ?_))))));exact⟨(vE d),F.su,H⟩
  | cons x1 n=>
   subst M;replace f:=oO f.2;have U:=oZ f.2.1;obtain⟨aa,d,D⟩:=oV d;rw[K] at d;have z:=qM f.1;refine xC (xP (xA 2 F rfl fun a F=>oN F rfl rfl e fun a F=>oF (s':=1) kR F rfl rfl e xI.f1 fun a p2 V F=>aY isAgg29 F rfl rfl H.sm V fun a v1 W F=>oL underlying29 F rfl rfl W fun a G F=>xA 1 F rfl fun a F=>oY ?_));refine xF (qV F rfl z (xL (xF (xC ?_))));have j1:=fE (Nat.le_of_lt f.1) G;have X:=zC f.1 G;refine xW (xC (xQ H (by kernel_rfl) (by kernel_rfl) (xR F rfl (fun w l=>xM F rfl) fun a F=>qN F rfl rfl e fun a F=>qF (s':=1) dA F rfl rfl e xI.f0 fun a p3 Y F=>iB isAgg2 F rfl rfl H.q Y fun a Z F=>xR F rfl (fun w l=>xM F rfl) fun a F=>qN F rfl rfl e fun a F=>qF (s':=1) kR F rfl rfl e xI.f1 fun a p4 h6 F=>qlS isAgg29 F rfl rfl H.q h6 (fun a v2 h7 F=>?_))));refine xR F rfl (fun w l=>xM F rfl) fun a F=>qI underlying29 sizeOf51 F rfl rfl rfl h7 U (fun a p5 h8 F=>?_);obtain⟨z1,c1,d⟩:=xB d;refine dD F rfl call45 rfl (fun w w' h l=>l.through h) (fun w l=>spec_l01Ok_c z1 c1 w aA Z ((H.go l).a h8)) fun a F=>xR F rfl (fun w l=>fW F rfl) fun a F=>kA fun w H=>xF (qP F rfl (fun y=>?_) (fun y=>?_))
   ·
    replace d:=vR y d;refine xP (xA 1 F rfl fun a F=>xJ (xT (vJ (oE (oE ?_)))));replace d:=zR d D;refine vJ (oE ?_);replace d:=zQ d C;refine oE (xS F rfl (oD F rfl) ?_);obtain rfl:=oj d;exact⟨rfl,H.bl⟩
   replace d:=vQ y d;refine xL (qS (xF (xU (xA 1 F rfl fun a F=>qQ F rfl rfl rfl X fun a F=>xA 1 F rfl fun a F=>xJ ?_))));replace d:=qX d D;exact⟨_,Nat.lt_succ_self _,p+1,n,⟨f.1,f.2.2⟩,rfl,d,F.su,H⟩
 rintro a w ⟨rfl,F,H⟩
 have d:=xN C;refine xF (xC ?_);obtain⟨o2,d,N⟩:=xK d;refine xX (fun a w=>∃ (A:Bool),o2= .nx A∧Sk a 38 [(2,.bool A)]∧Sep [] B j w []) ?_ ?_
 ·
  refine xU (xA 1 F rfl fun a F=>oN F rfl rfl e fun a F=>oF (s':=1) dA F rfl rfl e xI.f0 fun a p6 h9 F=>aN isAgg2 F rfl rfl H.sm h9 (fun a i4 F=>?_));obtain⟨I,c2,d⟩:=xB d;refine oK F rfl call84 rfl H (spec_l01Size_c I c2 _ aA i4) fun a w H F=>xA 1 F rfl fun a F=>?_
  rcases qU I with t | t
  ·
   replace d:=vR t d;have F:=F.eb 30 rfl t;refine xA 1 F rfl fun a F=>oN F rfl rfl e fun a F=>oF (s':=1) kR F rfl rfl e xI.f1 fun a p7 O F=>aY isAgg29 F rfl rfl H.sm O fun a v3 P F=>oL underlying29 F rfl rfl P fun a i5 F=>xA 3 F rfl fun a F=>xJ ?_;exact⟨(decide ((i.rels.length:Int)≤6)),(vE d),F.su,H⟩
  replace d:=vQ t d;have F:=F.eb 30 rfl t;refine xA 8 F rfl fun a F=>xJ ?_;exact⟨false,(vE d),F.su,H⟩
 rintro a w ⟨A,rfl,F,H⟩
 have d:=xN N;refine xF (xT (xS F rfl (oD F rfl) ?_));obtain rfl:=oj d;exact⟨rfl,H.bl⟩
def gD (c:List Int) (d:Int):Option Bool:=
 vT (σ:=Unit) (
  qJ (σ:=Unit) (ρ:=Bool) (fun (i:Nat) (e:Int) (s:Unit)=>
    match s with
    | _=>
    xY (ck (d - 1)) fun f=>
    xY (cC e 0 f) fun h=>
    if (!h) then
     some (.ret false)
    else
     some (.go ())) c 0 ()) fun _=>
 some true
theorem spec_l01Places_c {B:Nat→Prop} {h:List Int} {n:Int} (r:Bool) (d:gD h n=some r) {p:Value} (i:World) (K:∀ c,B c→c<i.heap.size) (x:Bo B i (Sl 1 xH) p h) (T:xZ n):Calls Tryz.prog 108 #[p,xG n] i (zO (.bool r) i):=by
 unfold gD at d
 refine xV (L:=[(0,p),(1,xG n)]) func108 rfl rfl rfl (sc rfl (sc rfl sn)) (fun a F=>?_);have H:=Sep.start K;refine xP (xA 1 F rfl fun a F=>xJ (xC (xP (xA 1 F rfl fun a F=>xJ ?_))));obtain⟨C,d,z⟩:=xK d;refine xX (fun a w=>C= .nx ()∧Sk a 20 []∧Sep [] B i w []) ?_ ?_
 ·
  refine xW ?_;obtain⟨I,J,d⟩:=qE d;refine oU (fun g a w=>∃ (j:Nat) (f:List Int),(j≤h.length∧h.drop j=f)∧f.length=g∧qJ I f j ()=some C∧Sk a 20 [(5,xG (j:Int)),(0,p),(1,xG n)]∧Sep [] B i w []) h.length ?_ ?_
  ·
   exact⟨0,h,⟨Nat.zero_le _,rfl⟩,rfl,d,F.su,H⟩
  intro V a w ⟨j,f,e,G,d,F,H⟩
  cases f with
  | nil=>
   replace d:=qH d;have M:=qG e.1 e.2;have y:=vA M;refine xC (xP (xA 2 F rfl fun a F=>oL underlying25 F rfl rfl x fun a W F=>xA 1 F rfl fun a F=>xJ (qT F rfl y (oM ?_))));refine oR (oR (vH (xF ?_)));exact⟨(vE d),F.sub sn,H⟩
  | cons X f=>
   subst G;replace e:=oO e.2;have N:=oZ e.2.1;obtain⟨U,d,A⟩:=oV d;rw[J] at d;have y:=qM e.1;refine xC (xP (xA 2 F rfl fun a F=>oL underlying25 F rfl rfl x fun a D F=>xA 1 F rfl fun a F=>xJ (qV F rfl y (xL ?_))));refine xF (xC ?_);have Y:=fE (Nat.le_of_lt e.1) D;have O:=zC e.1 D;refine xW (xP (xA 2 F rfl fun a F=>oI underlying25 sizeOf2 F rfl rfl rfl x N fun a Z P F=>aN isAgg2 F rfl rfl H.sm P fun a Q F=>xA 1 F rfl fun a F=>?_));obtain⟨z1,E,d⟩:=xB d;refine iS F rfl rfl rfl E (fun a F=>?_);obtain⟨R,S,d⟩:=xB d;refine oK F rfl call86 rfl H (cG R S _ aA Q (show xZ (0) by decide) (kG E)) fun a w H F=>xA 1 F rfl fun a F=>xJ (qP F rfl (fun t=>?_) (fun t=>?_))
   ·
    replace d:=vR t d;refine xP (xA 1 F rfl fun a F=>xJ (xT (vJ (oE (oE ?_)))));replace d:=zR d A;refine vJ (oE ?_);replace d:=zQ d z;refine oE (xS F rfl (oD F rfl) ?_);obtain rfl:=oj d;exact⟨rfl,H.bl⟩
   replace d:=vQ t d;refine xL (qS (xF (xU (xA 1 F rfl fun a F=>qQ F rfl rfl rfl O fun a F=>xA 1 F rfl fun a F=>xJ ?_))));replace d:=qX d A;exact⟨_,Nat.lt_succ_self _,j+1,f,⟨e.1,e.2.2⟩,rfl,d,F.su,H⟩
 rintro a w ⟨rfl,F,H⟩
 have d:=xN z;refine xF (xP (xA 1 F rfl fun a F=>xJ (xT (xS F rfl (oD F rfl) ?_))));obtain rfl:=oj d;exact⟨rfl,H.bl⟩
def gE (e:Template) (c:Instance):Option Bool:=
 vT (σ:=Bool) (
  xY (cT e) fun f=>
  if (!f) then  some (.nx true) else  xY (cC c.vars 1 10) fun h=>
   if (!h) then  some (.nx true) else  some (.nx (decide (24<(c.cons.length:Int))))) fun i=>
 if i then
  some false
 else
  vT (σ:=Unit) (
   qJ (σ:=Unit) (ρ:=Bool) (fun (y:Nat) (d:Con) (s:Unit)=>
     match s with
     | _=>
     vT (σ:=Bool) (
      xY (ck ((e.rels.length:Int) - 1)) fun j=>
      xY (cC d.rel 0 j) fun n=>
      if (!n) then  some (.nx true) else  xY (ix e.rels d.rel) fun p=>
       if ((d.scope.length:Int) != p.arity) then  some (.nx true) else  xY (gD d.scope c.vars) fun t=>
        some (.nx (!t))) fun x=>
     if x then
      some (.ret false)
     else
      some (.go ())) c.cons 0 ()) fun _=>
  some true
theorem spec_l05Ok_c {B:Nat→Prop} {P:Template} {n:Instance} (r:Bool) (d:gE P n=some r) {x:Value} {y:Value} (i:World) (hN:∀ c,B c→c<i.heap.size) (E:Bo B i (Pt 2 xI) x P) (e:Bo B i (Pt 2 xO) y n):Calls Tryz.prog 55 #[x,y] i (zO (.bool r) i):=by
 unfold gE at d
 refine xV (L:=[(0,x),(1,y)]) func55 rfl rfl rfl (sc rfl (sc rfl sn)) (fun a F=>?_);have H:=Sep.start hN;refine xP (xA 1 F rfl fun a F=>xJ (xC (xC ?_)));obtain⟨o1,d,X⟩:=xK d;refine xX (fun a w=>∃ (J:Bool),o1= .nx J∧Sk a 84 [(0,x),(1,y),(25,.bool J)]∧Sep [] B i w []) ?_ ?_
 ·
  refine xU (xA 1 F rfl fun a F=>?_);obtain⟨Q,c1,d⟩:=xB d;refine oK F rfl call107 rfl H (spec_l01Template_c Q c1 _ aA (H.a E)) fun a w H F=>xA 2 F rfl fun a F=>?_
  rcases qU (!Q) with z | z
  ·
   replace d:=vR z d;have F:=F.eb 10 rfl z;refine xA 11 F rfl fun a F=>?_;refine xA 4 F rfl fun a F=>xJ ?_;exact⟨true,(vE d),F.su,H⟩
  replace d:=vQ z d;have F:=F.eb 10 rfl z;refine xA 1 F rfl fun a F=>oN F rfl rfl e fun a F=>oF (s':=1) kD F rfl rfl e xO.f0 fun a b7 h1 F=>aN isAgg2 F rfl rfl H.sm h1 (fun a i1 F=>?_);obtain⟨R,c2,d⟩:=xB d;refine oK F rfl call86 rfl H (cG R c2 _ aA i1 (show xZ (1) by decide) (show xZ (10) by decide)) fun a w H F=>xA 3 F rfl fun a F=>?_
  rcases qU (!R) with A | A
  ·
   replace d:=vR A d;have F:=F.eb 18 rfl A;refine xA 7 F rfl fun a F=>xJ ?_;exact⟨true,(vE d),F.su,H⟩
  replace d:=vQ A d;have F:=F.eb 18 rfl A;refine xA 1 F rfl fun a F=>oN F rfl rfl e fun a F=>oF (s':=1) bU F rfl rfl e xO.f1 fun a p1 h2 F=>aY isAgg33 F rfl rfl H.sm h2 fun a v2 h3 F=>oL underlying33 F rfl rfl h3 fun a i2 F=>xA 2 F rfl fun a F=>xJ ?_;exact⟨(decide (24<(n.cons.length:Int))),(vE d),F.su,H⟩
 rintro a w ⟨J,rfl,F,H⟩
 have d:=xN X;refine xF (qP F rfl (fun G=>?_) (fun G=>?_))
 ·
  replace d:=vR G d;refine xP (xA 1 F rfl fun a F=>xJ (xT (oE (xS F rfl (oD F rfl) ?_))));obtain rfl:=oj d;exact⟨rfl,H.bl⟩
 replace d:=vQ G d;refine xL (xF (xC (xP (xA 1 F rfl fun a F=>xJ ?_))));obtain⟨S,d,N⟩:=xK d;refine xX (fun a w=>S= .nx ()∧Sk a 84 []∧Sep [] B i w []) ?_ ?_
 ·
  refine xW ?_;obtain⟨Y,Z,d⟩:=qE d;refine oU (fun g a w=>∃ (p:Nat) (t:List Con),(p≤n.cons.length∧n.cons.drop p=t)∧t.length=g∧qJ Y t p ()=some S∧Sk a 84 [(5,xG (p:Int)),(0,x),(1,y)]∧Sep [] B i w []) n.cons.length ?_ ?_
  ·
   exact⟨0,n.cons,⟨Nat.zero_le _,rfl⟩,rfl,d,F.su,H⟩
  intro g1 a w ⟨p,t,f,a0,d,F,H⟩
  cases t with
  | nil=>
   replace d:=qH d;have q1:=qG f.1 f.2;have K:=vA q1;refine xC (xP (xA 2 F rfl fun a F=>oN F rfl rfl e fun a F=>oF (s':=1) bU F rfl rfl e xO.f1 fun a p2 h4 F=>aY isAgg33 F rfl rfl H.sm h4 fun a v3 h5 F=>oL underlying33 F rfl rfl h5 fun a i3 F=>xA 1 F rfl fun a F=>oY ?_));refine xF (qT F rfl K (oM (oR (oR (vH (xF ?_))))));exact⟨(vE d),F.sub sn,H⟩
  | cons x2 t=>
   subst a0;replace f:=oO f.2;have y1:=oZ f.2.1;obtain⟨b8,d,O⟩:=oV d;rw[Z] at d;have K:=qM f.1;refine xC (xP (xA 2 F rfl fun a F=>oN F rfl rfl e fun a F=>oF (s':=1) bU F rfl rfl e xO.f1 fun a p3 h6 F=>aY isAgg33 F rfl rfl H.sm h6 fun a v4 h7 F=>oL underlying33 F rfl rfl h7 fun a T F=>xA 1 F rfl fun a F=>oY ?_));refine xF (qV F rfl K (xL (xF (xC ?_))));have j1:=fE (Nat.le_of_lt f.1) T;have m1:=zC f.1 T;refine xW (xP (xA 1 F rfl fun a F=>oN F rfl rfl e fun a F=>oF (s':=1) bU F rfl rfl e xO.f1 fun a p4 h8 F=>aY isAgg33 F rfl rfl H.sm h8 fun a v5 h9 F=>xA 1 F rfl fun a F=>oI underlying33 sizeOf119 F rfl rfl rfl h9 y1 fun a p5 j F=>xA 1 F rfl fun a F=>oY ?_));refine xF (xC ?_);obtain⟨o3,d,a1⟩:=xK d;refine xX (fun a w=>∃ (M:Bool),o3= .nx M∧Sk a 84 [(0,x),(1,y),(5,xG (p:Int)),(83,.bool M)]∧Sep [] B i w []) ?_ ?_
   ·
    refine xQ H (by kernel_rfl) (by kernel_rfl) (xR F rfl (fun w l=>xM F rfl) fun a F=>qN F rfl rfl j fun a F=>qF (s':=1) fR F rfl rfl j vU.f0 fun a p6 a2 F=>iB isAgg2 F rfl rfl H.q a2 fun a i5 F=>xR F rfl (fun w l=>xM F rfl) fun a F=>qN F rfl rfl E fun a F=>qF (s':=1) kR F rfl rfl E xI.f1 fun a p7 a3 F=>qlS isAgg29 F rfl rfl H.q a3 fun a v6 a4 F=>qL underlying29 F rfl rfl a4 (fun a i6 F=>?_));obtain⟨z3,U,d⟩:=xB d;refine xR F rfl (fun w l=>r_sub F rfl rfl U) (fun a F=>?_);obtain⟨V,c4,d⟩:=xB d;refine dD F rfl call86 rfl (fun w w' h l=>l.through h) (fun w l=>cG V c4 w aA i5 (show xZ (0) by decide) (kG U)) fun a F=>xR F rfl (fun w l=>fW F rfl) fun a F=>xR F rfl (fun w l=>xM F rfl) (fun a F=>?_)
    rcases qU (!V) with C | C
    ·
     replace d:=vR C d;have F:=F.eb 53 rfl C;refine qK F rfl rfl fun a F=>qK F rfl rfl fun a F=>qK F rfl rfl fun a F=>qK F rfl rfl fun a F=>qK F rfl rfl fun a F=>qK F rfl rfl fun a F=>qK F rfl rfl fun a F=>qK F rfl rfl fun a F=>qK F rfl rfl fun a F=>qK F rfl rfl fun a F=>qK F rfl rfl (fun a F=>?_);refine qK F rfl rfl fun a F=>qK F rfl rfl fun a F=>qK F rfl rfl fun a F=>qK F rfl rfl fun a F=>qK F rfl rfl fun a F=>qK F rfl rfl fun a F=>xR F rfl (fun w l=>aU F rfl rfl) fun a F=>xR F rfl (fun w l=>xM F rfl) fun a F=>qK F rfl rfl fun a F=>qK F rfl rfl fun a F=>qK F rfl rfl (fun a F=>?_);refine qK F rfl rfl fun a F=>qK F rfl rfl fun a F=>qK F rfl rfl fun a F=>qK F rfl rfl fun a F=>qK F rfl rfl fun a F=>qK F rfl rfl fun a F=>qK F rfl rfl fun a F=>xR F rfl (fun w l=>aU F rfl rfl) fun a F=>kA fun w H=>xF ?_;exact⟨true,(vE d),F.su,H⟩
    replace d:=vQ C d;have F:=F.eb 53 rfl C;refine xR F rfl (fun w l=>xM F rfl) fun a F=>qN F rfl rfl j fun a F=>qF (s':=1) zV F rfl rfl j vU.f1 fun a p8 a5 F=>qlS isAgg25 F rfl rfl H.q a5 fun a v7 a6 F=>qL underlying25 F rfl rfl a6 fun a i7 F=>xR F rfl (fun w l=>xM F rfl) fun a F=>qN F rfl rfl E fun a F=>qF (s':=1) kR F rfl rfl E xI.f1 fun a p9 a7 F=>qlS isAgg29 F rfl rfl H.q a7 fun a v8 a8 F=>xR F rfl (fun w l=>xM F rfl) fun a F=>qN F rfl rfl j (fun a F=>?_);refine qF (s':=1) fR F rfl rfl j vU.f0 fun a b9 a9 F=>iB isAgg2 F rfl rfl H.q a9 (fun a i8 F=>?_);obtain⟨z5,c5,d⟩:=xB d;refine qI underlying29 sizeOf51 F rfl rfl rfl a8 c5 fun a ba aa F=>qF (s':=1) cB F rfl rfl aa qD.f0 fun a bb ab F=>iB isAgg2 F rfl rfl H.q ab fun a i9 F=>xR F rfl (fun w l=>r_neq F rfl rfl) fun a F=>xR F rfl (fun w l=>aF F rfl rfl) fun a F=>xR F rfl (fun w l=>xM F rfl) (fun a F=>?_)
    rcases qU ((x2.scope.length:Int) != z5.arity) with D | D
    ·
     replace d:=vR D d;have F:=F.eb 72 rfl D;refine qK F rfl rfl fun a F=>qK F rfl rfl fun a F=>qK F rfl rfl fun a F=>qK F rfl rfl fun a F=>qK F rfl rfl fun a F=>qK F rfl rfl fun a F=>qK F rfl rfl fun a F=>qK F rfl rfl fun a F=>qK F rfl rfl fun a F=>qK F rfl rfl fun a F=>xR F rfl (fun w l=>aU F rfl rfl) (fun a F=>?_);refine kA fun w H=>xF ?_;exact⟨true,(vE d),F.su,H⟩
    replace d:=vQ D d;have F:=F.eb 72 rfl D;refine xR F rfl (fun w l=>xM F rfl) fun a F=>qN F rfl rfl j fun a F=>qF (s':=1) zV F rfl rfl j vU.f1 fun a bc ac F=>qlS isAgg25 F rfl rfl H.q ac fun a v9 ad F=>xR F rfl (fun w l=>xM F rfl) fun a F=>qN F rfl rfl e fun a F=>qF (s':=1) kD F rfl rfl e xO.f0 fun a bd ae F=>iB isAgg2 F rfl rfl H.q ae (fun a af F=>?_);obtain⟨W,c6,d⟩:=xB d;refine dD F rfl call108 rfl (fun w w' h l=>l.through h) (fun w l=>spec_l01Places_c W c6 w aA ((H.go l).a ad) af) fun a F=>xR F rfl (fun w l=>fW F rfl) fun a F=>xR F rfl (fun w l=>aF F rfl rfl) fun a F=>kA fun w H=>xF ?_;exact⟨(!W),(vE d),F.su,H⟩
   rintro a w ⟨M,rfl,F,H⟩
   have d:=xN a1;refine xF (qP F rfl (fun I=>?_) (fun I=>?_))
   ·
    replace d:=vR I d;refine xP (xA 1 F rfl fun a F=>xJ (xT (vJ (oE (oE ?_)))));replace d:=zR d O;refine vJ (oE ?_);replace d:=zQ d N;refine oE (xS F rfl (oD F rfl) ?_);obtain rfl:=oj d;exact⟨rfl,H.bl⟩
   replace d:=vQ I d;refine xL (qS (xF (xU (xA 1 F rfl fun a F=>qQ F rfl rfl rfl m1 fun a F=>xA 1 F rfl fun a F=>xJ ?_))));replace d:=qX d O;exact⟨_,Nat.lt_succ_self _,p+1,t,⟨f.1,f.2.2⟩,rfl,d,F.su,H⟩
 rintro a w ⟨rfl,F,H⟩
 have d:=xN N;refine xF (xP (xA 1 F rfl fun a F=>xJ (xT (xS F rfl (oD F rfl) ?_))));obtain rfl:=oj d;exact⟨rfl,H.bl⟩
def spec_l09Class (c:Int):Option Bool:=
 xY (cC c 1 6) fun d=>
 some d
theorem spec_l09Class_c {B:Nat→Prop} {d:Int} (r:Bool) (e:spec_l09Class d=some r)  (f:World) (i:∀ c,B c→c<f.heap.size) (h:xZ d):Calls Tryz.prog 109 #[xG d] f (zO (.bool r) f):=by
 unfold spec_l09Class at e
 refine xV (L:=[(0,xG d)]) func109 rfl rfl rfl (sc rfl sn) (fun a F=>?_);have H:=Sep.start i;refine xP (xA 1 F rfl fun a F=>qO (xA 1 F rfl fun a F=>?_));obtain⟨j,n,e⟩:=xB e;refine oK F rfl call86 rfl H (cG j n _ aA h (show xZ (1) by decide) (show xZ (6) by decide)) fun a w H F=>xA 1 F rfl fun a F=>xJ (xT (xS F rfl (oD F rfl) ?_));obtain rfl:=oj e;exact⟨rfl,H.bl⟩
def iG (c:Template) (d:Int):Option Int:=
 xY (cT c) fun e=>
 if (!e) then
  some 1
 else
  if (c.size != 2) then
   some 4
  else
   xY (spec_l09Class d) fun f=>
   if (!f) then
    some 2
   else
    some 0
theorem spec_l09Two_c {B:Nat→Prop} {t:Template} {e:Int} (r:Int) (d:iG t e=some r) {n:Value} (f:World) (y:∀ c,B c→c<f.heap.size) (p:Bo B f (Pt 2 xI) n t) (x:xZ e):Calls Tryz.prog 56 #[n,xG e] f (dW r f):=by
 unfold iG at d
 refine xV (L:=[(0,n),(1,xG e)]) func56 rfl rfl rfl (sc rfl (sc rfl sn)) (fun a F=>?_);have H:=Sep.start y;refine xP (xA 1 F rfl fun a F=>xJ (xC (xW (xP (xA 1 F rfl fun a F=>?_)))));obtain⟨z,A,d⟩:=xB d;refine oK F rfl call107 rfl H (spec_l01Template_c z A _ aA (H.a p)) fun a w H F=>xA 2 F rfl fun a F=>xJ (qP F rfl (fun h=>?_) (fun h=>?_))
 ·
  replace d:=vR h d;refine xP (xA 1 F rfl fun a F=>xJ (xT (vJ (oE (xS F rfl (oD F rfl) ?_)))));obtain rfl:=oj d;exact⟨⟨rfl,H.bl⟩,(show xZ (1) by decide)⟩
 replace d:=vQ h d;refine xP (xA 1 F rfl fun a F=>oN F rfl rfl p fun a F=>oF (s':=1) dA F rfl rfl p xI.f0 fun a I C F=>aN isAgg2 F rfl rfl H.sm C fun a G F=>xA 2 F rfl fun a F=>xJ (qP F rfl (fun i=>?_) (fun i=>?_)))
 ·
  replace d:=vR i d;refine xP (xA 1 F rfl fun a F=>xJ (xT (vJ (oE (xS F rfl (oD F rfl) ?_)))));obtain rfl:=oj d;exact⟨⟨rfl,H.bl⟩,(show xZ (4) by decide)⟩
 replace d:=vQ i d;refine xP (xA 1 F rfl fun a F=>?_);obtain⟨D,E,d⟩:=xB d;refine oK F rfl call109 rfl H (spec_l09Class_c D E _ aA x) fun a w H F=>xA 2 F rfl fun a F=>xJ (qP F rfl (fun j=>?_) (fun j=>?_))
 ·
  replace d:=vR j d;refine xP (xA 1 F rfl fun a F=>xJ (xT (vJ (oE (xS F rfl (oD F rfl) ?_)))));obtain rfl:=oj d;exact⟨⟨rfl,H.bl⟩,(show xZ (2) by decide)⟩
 replace d:=vQ j d;refine xL (qS (xF (xP (xA 1 F rfl fun a F=>xJ (xT (xS F rfl (oD F rfl) ?_))))));obtain rfl:=oj d;exact⟨⟨rfl,H.bl⟩,(show xZ (0) by decide)⟩
def eR (c:List Int):Option (List Int):=
 xY (ap ([]) c) fun d=>
 some d
theorem gS {B:Nat→Prop} {i:List Int} (r:(List Int)) (d:eR i=some r) {f:Value} (e:World) (j:∀ c,B c→c<e.heap.size) (n:Bo B e (Sl 1 xH) f i):Calls Tryz.prog 146 #[f] e (Gv (fun v w'=>∃ (h:Value),v=h∧Sep [] B e w' [rl 1 xH 2 h r])):=by
 unfold eR at d
 refine xV (L:=[(0,f)]) func146 rfl rfl rfl (sc rfl sn) (fun a F=>?_);have H:=Sep.start j;refine xP (xA 1 F rfl fun a F=>qO (oR0 (R:=xH) underlying25 sizeOf2 F rfl H fun a w x H F=>xA 1 F rfl fun a F=>?_));obtain⟨y,p,d⟩:=xB d;refine oPf (sz:=1) (R:=xH) (z:=(xG 0)) (bytes:=8) underlying25 (by kernel_rfl) rfl rfl F rfl rfl rfl H.lw (H.lw.a n) p (fun a w t H F=>?_);have H:=H.tl;refine xA 1 F rfl fun a F=>xJ (xT (xS F rfl (oD F rfl) ?_));obtain rfl:=oj d;exact⟨_,rfl,t,rfl,H⟩
def spec_l02Breaks (N:Nat) (d:Int) (e:Op) (c:Rel):Option ((List (List Int))×(List Int)×Bool):=
 xY (aH N d c) fun i=>
 xY (kC N (c.tuples.length:Int) e.arity) fun j=>
 vT (σ:=Unit) (
  zH (σ:=Unit) (ρ:=(List (List Int))×(List Int)×Bool) (fun (n:Nat) (s:Unit)=>
    match s with
    | _=>
    xY (aT N (c.tuples.length:Int) e.arity (n:Int)) fun p=>
    vT (σ:=(List (List Int))) (
     qJ (σ:=(List (List Int))) (ρ:=(Ctl (Unit) ((List (List Int))×(List Int)×Bool))) (fun (H:Nat) (t:Int) (x:(List (List Int)))=>
      xY (ix c.tuples t) fun y=>
      xY (ap x ([y])) fun z=>
      some (.go z)) p 0 []) fun f=>
    xY (iY d e f) fun h=>
    xY (gL d h) fun A=>
    xY (ix i.2.2 A) fun B=>
    if (!B) then
     vT (σ:=(List (List Int))) (
      qJ (σ:=(List (List Int))) (ρ:=(Ctl (Unit) ((List (List Int))×(List Int)×Bool))) (fun (I:Nat) (C:(List Int)) (D:(List (List Int)))=>
       xY (eR C) fun E=>
       xY (ap D ([E])) fun F=>
       some (.go F)) f 0 []) fun G=>
     some (.ret (G,h,true))
    else
     some (.go ())) j.toNat 0 ()) fun _=>
 some ([],[],false)
theorem spec_l02Breaks_c {B:Nat→Prop} {N:Nat} {p:Int} {x1:Op} {U:Rel} (r:(List (List Int))×(List Int)×Bool) (d:spec_l02Breaks N p x1 U=some r) {E:Value} {G:Value} (e:World) (hN:∀ c,B c→c<e.heap.size) (a4:xZ p) (V:Bo B e (Pt 2 cS) E x1) (W:Bo B e (Pt 2 qD) G U):Calls Tryz.prog 169 #[xG p,E,G] e (Gv (fun v w'=>∃ (ac ad:Value),v= .tuple #[ac,ad,.bool r.2.2]∧Sep [] B e w' [rl 1 (vO 1 xH) 25 ac r.1,rl 1 xH 2 ad r.2.1])):=by
 unfold spec_l02Breaks at d
 refine xV (L:=[(0,xG p),(1,E),(2,G)]) func169 rfl rfl rfl (sc rfl (sc rfl (sc rfl sn))) (fun a F=>?_);have H:=Sep.start hN;refine xP (xA 3 F rfl fun a F=>qO (xA 1 F rfl fun a F=>oN F rfl rfl W (fun a F=>?_)));refine oF (s':=1) vW F rfl rfl W qD.f1 fun a p1 h1 F=>aY isAgg45 F rfl rfl H.sm h1 fun a v3 h2 F=>oL underlying45 F rfl rfl h2 fun a i1 F=>xA 1 F rfl fun a F=>qO (xA 2 F rfl fun a F=>?_);obtain⟨f,c1,d⟩:=xB d;refine oG F rfl call31 rfl (spec_l01SetOf_c f c1 _ aA a4 (H.a W)) (fun a t w ⟨I,J,cn,S,i2,i3⟩ F=>?_);subst t;have H:=H.rk S ⟨n0,⟨n0,trivial⟩⟩ rfl;refine xA 1 F rfl fun a F=>qO (xA 2 F rfl fun a F=>oN F rfl rfl V fun a F=>oF (s':=1) fa27_0 F rfl rfl V cS.f0 fun a p2 h3 F=>aN isAgg2 F rfl rfl H.sm h3 (fun a i4 F=>?_));obtain⟨K,c2,d⟩:=xB d;refine oKI F rfl call66 rfl H (cE K c2 _ aA i1 i4) fun a w H ae F=>xA 1 F rfl fun a F=>xJ (xC (xP (xA 1 F rfl fun a F=>xJ ?_)));obtain⟨o1,d,af⟩:=xK d;refine xX (fun a w=>o1= .nx ()∧Sk a 98 []∧Sep [] B e w []) ?_ ?_
 ·
  refine xW ?_;obtain⟨au,av,d⟩:=zG d;refine oU (fun g a w=>∃ (A:Nat),A+g=K.toNat∧zH au g A ()=some o1∧Sk a 98 [(12,xG (A:Int)),(0,xG p),(1,E),(2,G),(9,xG (U.tuples.length:Int)),(10,vK I),(11,xG K)]∧Sep [] B e w [bx I [xG f.1,xG f.2.1,J] 116,rl 1 kN 4 J f.2.2]) K.toNat ?_ ?_
  ·
   exact⟨0,(Nat.zero_add _),d,F.su,H⟩
  intro g1 a w ⟨A,Y,d,F,H⟩
  cases g1 with
  | zero=>
   replace d:=vY d;have l1:=kT Y;refine xC (xP (xA 3 F rfl fun a F=>xJ (qT F rfl l1 (oM (oR ?_)))));refine oR (vH (xF ?_));exact⟨(vE d),F.sub sn,(H.s [] rfl rfl)⟩
  | succ g1=>
   obtain⟨co,d,ag⟩:=vX d;rw[av] at d;have l1:=zW Y;refine xC (xP (xA 3 F rfl fun a F=>xJ (qV F rfl l1 (xL (xF ?_)))));refine xC ?_;have j1:=k64I Y ae;have m1:=bC Y ae;refine xW (xP (xA 2 F rfl fun a F=>oN F rfl rfl V fun a F=>oF (s':=1) fa27_0 F rfl rfl V cS.f0 fun a p3 h4 F=>aN isAgg2 F rfl rfl H.sm h4 fun a i5 F=>xA 1 F rfl fun a F=>?_));obtain⟨M,c3,d⟩:=xB d;refine oG F rfl call68 rfl (bH M c3 _ aA i1 i5 j1) (fun a t w ⟨v5,cp,S⟩ F=>?_);subst t;have H:=H.r1 S n0;refine xA 1 F rfl fun a F=>qO (oR0 (R:=(vO 1 xH)) underlying45 sizeOf25 F rfl H fun a w v6 H F=>xA 1 F rfl fun a F=>xJ (xC (xC ?_)));refine xU (xA 1 F rfl fun a F=>xJ ?_);obtain⟨o2,d,aw⟩:=xK d;refine xX (fun a w=>∃ (n:List (List Int)) (X:Value),o2= .nx n∧Sk a 98 [(0,xG p),(1,E),(2,G),(9,xG (U.tuples.length:Int)),(10,vK I),(11,xG K),(12,xG (A:Int)),(14,X)]∧Sep [] B e w [rw B 1 (vO 1 xH) 25 X n,bx I [xG f.1,xG f.2.1,J] 116,rl 1 kN 4 J f.2.2]) ?_ ?_
   ·
    refine xW ?_;obtain⟨ax,ay,d⟩:=qE d;refine oU (fun g a w=>∃ (O:Nat) (C:List Int) (s2:List (List Int)) (v8:Value),(O≤M.length∧M.drop O=C)∧C.length=g∧qJ ax C O s2=some o2∧Sk a 98 [(15,xG (O:Int)),(0,xG p),(1,E),(2,G),(9,xG (U.tuples.length:Int)),(10,vK I),(11,xG K),(12,xG (A:Int)),(13,v5),(14,v8)]∧Sep [] B e w [rw B 1 (vO 1 xH) 25 v8 s2,rl 1 xH 2 v5 M,bx I [xG f.1,xG f.2.1,J] 116,rl 1 kN 4 J f.2.2]) M.length ?_ ?_
    ·
     exact⟨0,M,[],v6,⟨Nat.zero_le _,rfl⟩,rfl,d,F.su,H.lw.wk⟩
    intro g2 a w ⟨O,C,s2,v8,i,az,d,F,H⟩
    cases C with
    | nil=>
     replace d:=qH d;have q1:=qG i.1 i.2;have l2:=vA q1;refine xC (xP (xA 2 F rfl fun a F=>oL underlying25 F rfl rfl (H.l 1 rfl) fun a i6 F=>xA 1 F rfl fun a F=>xJ (qT F rfl l2 (oM ?_))));refine oR (oR (vH (xF ?_)));exact⟨s2,v8,(vE d),F.su,(H.s [0,2,3] rfl rfl)⟩
    | cons x3 C=>
     subst az;replace i:=oO i.2;have y1:=oZ i.2.1;obtain⟨cq,d,b0⟩:=oV d;rw[ay] at d;have l2:=qM i.1;refine xC (xP (xA 2 F rfl fun a F=>oL underlying25 F rfl rfl (H.l 1 rfl) fun a i7 F=>xA 1 F rfl fun a F=>xJ (qV F rfl l2 (xL ?_))));refine xF (xC ?_);have j2:=fE (Nat.le_of_lt i.1) i7;have m2:=zC i.1 i7;refine xW ?_;obtain⟨z3,c4,d⟩:=xB d;obtain⟨z4,c5,d⟩:=xB d;obtain⟨w1,rfl⟩:∃ x,x=w:=⟨_,rfl⟩;have a5:=H.sm;obtain⟨X1,N2,g3,e1,H,Q,cr⟩:=(H.s [1,0,2,3] rfl rfl).fza;have h5:=g3.ld;refine xD H (by kernel_rfl) fun w H=>vM 0 rfl (by kernel_rfl) (oJ F rfl (fun w l=>xM F rfl) fun a F=>vM 1 rfl (by kernel_rfl) (oJ F rfl (fun w l=>xM F rfl) fun a F=>qY 2 rfl (by kernel_rfl) (vN F rfl rfl W fun a F=>qY 3 rfl (by kernel_rfl) (vF (s':=1) vW F rfl rfl W qD.f1 fun a p4 h6 F=>qY 4 rfl (by kernel_rfl) (vlS isAgg45 F rfl rfl (fun w l=>(a5.trans (Sm.mono (H.v w l) Q.2.2))) h6 (fun a v9 h7 F=>?_))))));refine vM 5 rfl (by kernel_rfl) (oJ F rfl (fun w l=>xM F rfl) fun a F=>vM 6 rfl (by kernel_rfl) (oJ F rfl (fun w l=>xM F rfl) fun a F=>qY 7 rfl (by kernel_rfl) (vI underlying25 sizeOf2 F rfl rfl rfl h5 y1 fun a p5 h8 F=>qY 8 rfl (by kernel_rfl) (vlI isAgg2 F rfl rfl H.v h8 fun a i8 F=>qY 9 rfl (by kernel_rfl) (vI underlying45 sizeOf25 F rfl rfl rfl h7 c4 fun a p6 h9 F=>qY 10 rfl (by kernel_rfl) ?_)))));refine vlS isAgg25 F rfl rfl (fun w l=>(a5.trans (Sm.mono (H.v w l) Q.2.2))) h9 fun a cs b1 F=>xE H 11 rfl (by kernel_rfl) (oR1 (R:=(vO 1 xH)) (y:=z3) (N1:=B) underlying45 sizeOf25 zeroValue25 rfl rfl F rfl rfl H (fun c h=>(Q.2.2 c h)) (Eo.sl (Bo.to b1 (a5.trans (Sm.mono H.sm Q.2.2)))) fun a w ct H F=>xJ ⟨⟨_,H⟩,?_⟩);refine xE H 12 rfl (by kernel_rfl) (oP (sz:=1) (R:=(vO 1 xH)) (z:=(aE)) (bytes:=24) underlying45 (by kernel_rfl) rfl rfl F rfl rfl rfl (H.s [1,0,2,3] rfl rfl) c5 fun a w b2 H F=>xJ ⟨⟨_,H⟩,?_⟩);refine vM 13 rfl (by kernel_rfl) (oJ F rfl (fun w l=>zM F rfl) fun a F=>bF (by kernel_rfl) (qS (xF (xU (xA 1 F rfl fun a F=>qQ F rfl rfl rfl m2 fun a F=>xA 1 F rfl fun a F=>xJ ?_)))));replace d:=qX d b0;exact⟨_,Nat.lt_succ_self _,O+1,C,z4,b2,⟨i.1,i.2.2⟩,rfl,d,F.su,((Q.1 H (Ns.all ⟨n1,⟨n0,⟨n0,trivial⟩⟩⟩)).s [1,0,2,3] rfl rfl)⟩
   rintro a w ⟨n,X,rfl,F,H⟩
   have d:=xN aw;refine xF (xP (xA 3 F rfl fun a F=>?_));obtain⟨z5,c6,d⟩:=xB d;refine oG F rfl call44 rfl (spec_l02Make_c z5 c6 _ aA a4 (H.a V) (H.r 0 rfl)) (fun a t w ⟨T,cu,S⟩ F=>?_);subst t;have H:=H.r1 S n0;refine xA 1 F rfl fun a F=>xJ (xC (xQ H (by kernel_rfl) (by kernel_rfl) (xR F rfl (fun w l=>xM F rfl) fun a F=>xR F rfl (fun w l=>zT F rfl) fun a F=>xR F rfl (fun w l=>vG fa116_2 F rfl rfl) fun a F=>qB isAgg114 F rfl rfl (H.qb 2 rfl) rfl fun a F=>xR F rfl (fun w l=>xM F rfl) fun a F=>xR F rfl (fun w l=>xM F rfl) (fun a F=>?_))));obtain⟨z6,c7,d⟩:=xB d;refine q_saysI F rfl call72 rfl (fun w w' h l=>l.through h) _ (Below.refl _ _) (fun w l=>eO z6 c7 w aA a4 ((H.go l).l 0 rfl)) (fun a cv F=>?_);obtain⟨z7,c8,d⟩:=xB d;refine qI underlying114 sizeOf4 F rfl rfl rfl (H.l 3 rfl) c8 fun a p7 b3 F=>qlB isAgg4 F rfl rfl qA b3 fun a F=>xR F rfl (fun w l=>fW F rfl) fun a F=>kA fun w H=>xF (qP F rfl (fun a6=>?_) (fun a6=>?_))
   ·
    replace d:=vR a6 d;refine xP (oR0 (R:=(vO 1 xH)) underlying45 sizeOf25 F rfl H fun a w b4 H F=>xA 1 F rfl fun a F=>xJ (xC (xP (xA 1 F rfl fun a F=>oY ?_))));refine xF ?_;obtain⟨o3,d,b5⟩:=xK d;refine xX (fun a w=>∃ (s3:List (List Int)) (Z:Value),o3= .nx s3∧Sk a 98 [(16,T),(17,Z)]∧Sep [] B e w [rl 1 (vO 1 xH) 25 Z s3,rl 1 xH 2 T z5]) ?_ ?_
    ·
     refine xW ?_;obtain⟨b6,b7,d⟩:=qE d;refine oU (fun g a w=>∃ (P:Nat) (D s4:List (List Int)) (a0:Value),(P≤n.length∧n.drop P=D)∧D.length=g∧qJ b6 D P s4=some o3∧Sk a 98 [(18,xG (P:Int)),(14,X),(16,T),(17,a0)]∧Sep [] B e w [rl 1 (vO 1 xH) 25 a0 s4,rl 1 xH 2 T z5,rw B 1 (vO 1 xH) 25 X n]) n.length ?_ ?_
     ·
      exact⟨0,n,[],b4,⟨Nat.zero_le _,rfl⟩,rfl,d,F.su,(H.s [0,1,2] rfl rfl)⟩
     intro g4 a w ⟨P,D,s4,a0,j,b8,d,F,H⟩
     cases D with
     | nil=>
      replace d:=qH d;have q2:=qG j.1 j.2;have l3:=vA q2;refine xC (xP (xA 2 F rfl fun a F=>oL underlying45 F rfl rfl (H.r 2 rfl) fun a i9 F=>xA 1 F rfl fun a F=>xJ (qT F rfl l3 (oM ?_))));refine oR (oR (vH (xF ?_)));exact⟨s4,a0,(vE d),F.su,(H.s [0,1] rfl rfl)⟩
     | cons x4 D=>
      subst b8;replace j:=oO j.2;have y2:=oZ j.2.1;obtain⟨cw,d,b9⟩:=oV d;rw[b7] at d;have l3:=qM j.1;refine xC (xP (xA 2 F rfl fun a F=>oL underlying45 F rfl rfl (H.r 2 rfl) fun a ah F=>xA 1 F rfl fun a F=>xJ (qV F rfl l3 (xL ?_))));refine xF (xC ?_);have j3:=fE (Nat.le_of_lt j.1) ah;have m3:=zC j.1 ah;refine xW (xU (xA 3 F rfl fun a F=>oI underlying45 sizeOf25 F rfl rfl rfl (H.r 2 rfl) y2 fun a p8 ba F=>aY isAgg25 F rfl rfl (Sm.refl _ _) ba (fun a cx bb F=>?_)));obtain⟨z8,c9,d⟩:=xB d;refine oG F rfl call146 rfl (gS z8 c9 _ aA bb) (fun a t w ⟨cy,cz,S⟩ F=>?_);subst t;have H:=H.r1 S n0;have H:=H.os;refine oR1L (R:=(vO 1 xH)) (y:=z8) underlying45 sizeOf25 zeroValue25 rfl rfl F rfl rfl H El.sl (fun a w d0 H F=>?_);obtain⟨z9,bc,d⟩:=xB d;refine oPL (sz:=1) (R:=(vO 1 xH)) (z:=(aE)) (bytes:=24) underlying45 (by kernel_rfl) rfl rfl F rfl rfl rfl (H.s [1,0,2,3] rfl rfl) bc fun a w bd H F=>xA 1 F rfl fun a F=>oY (qS (xF (xU (xA 1 F rfl fun a F=>qQ F rfl rfl rfl m3 fun a F=>xA 1 F rfl fun a F=>xJ ?_))));replace d:=qX d b9;exact⟨_,Nat.lt_succ_self _,P+1,D,z9,bd,⟨j.1,j.2.2⟩,rfl,d,F.su,H⟩
    rintro a w ⟨s3,Z,rfl,F,H⟩
    have d:=xN b5;refine xF (xP (xA 5 F rfl fun a F=>xJ (xT ?_)));refine vJ (oE (oE ?_));replace d:=zR d ag;refine vJ (oE ?_);replace d:=zQ d af;refine oE (x_res3 F rfl (oD F rfl) (oD F rfl) (oD F rfl) ?_);obtain rfl:=oj d;exact⟨_,rfl,Z,T,rfl,H⟩
   replace d:=vQ a6 d;refine xL (qS (xF (xU (xA 1 F rfl fun a F=>qQ F rfl rfl rfl m1 fun a F=>xA 1 F rfl fun a F=>xJ ?_))));replace d:=qX d ag;exact⟨_,Nat.lt_succ_self _,A+1,(by omega),d,F.su,(H.s [2,3] rfl rfl)⟩
 rintro a w ⟨rfl,F,H⟩
 have d:=xN af;refine xF (xP (oR0 (R:=(vO 1 xH)) underlying45 sizeOf25 F rfl H fun a w be H F=>oR0 (R:=xH) underlying25 sizeOf2 F rfl H fun a w bf H F=>xA 3 F rfl fun a F=>xJ (xT ?_)));refine x_res3 F rfl (oD F rfl) (oD F rfl) (oD F rfl) ?_;obtain rfl:=oj d;exact⟨_,rfl,be,bf,rfl,(H.s [1,0] rfl rfl)⟩
def spec_l02Keeps (N:Nat) (c:Int) (d:Op) (e:Rel):Option Bool:=
 xY (spec_l02Breaks N c d e) fun f=>
 some ((!f.2.2))
theorem spec_l02Keeps_c {B:Nat→Prop} {N:Nat} {e:Int} {j:Op} {n:Rel} (r:Bool) (f:spec_l02Keeps N e j n=some r) {h:Value} {i:Value} (d:World) (t:∀ c,B c→c<d.heap.size) (p:xZ e) (x:Bo B d (Pt 2 cS) h j) (y:Bo B d (Pt 2 qD) i n):Calls Tryz.prog 139 #[xG e,h,i] d (zO (.bool r) d):=by
 unfold spec_l02Keeps at f
 refine xV (L:=[(0,xG e),(1,h),(2,i)]) func139 rfl rfl rfl (sc rfl (sc rfl (sc rfl sn))) (fun a F=>?_);have H:=Sep.start t;refine xP (xA 1 F rfl fun a F=>qO (xA 3 F rfl fun a F=>?_));obtain⟨z,A,f⟩:=xB f;refine oG F rfl call169 rfl (spec_l02Breaks_c z A _ aA p (H.a x) (H.a y)) (fun a C w ⟨E,G,D,S⟩ F=>?_);subst C;have H:=H.rk S ⟨n0,⟨n0,trivial⟩⟩ rfl;refine xA 7 F rfl fun a F=>qO ?_;refine xA 3 F rfl fun a F=>xJ (xT (xS F rfl (oD F rfl) ?_));obtain rfl:=oj f;exact⟨rfl,H.bl⟩
def spec_l02First (N:Nat) (c:Template) (d:Op):Option Int:=
 vT (σ:=Unit) (
  qJ (σ:=Unit) (ρ:=Int) (fun (e:Nat) (f:Rel) (s:Unit)=>
    match s with
    | _=>
    xY (spec_l02Keeps N c.size d f) fun h=>
    if (!h) then
     some (.ret ((e:Int)))
    else
     some (.go ())) c.rels 0 ()) fun _=>
 some ((-1))
theorem spec_l02First_c {B:Nat→Prop} {N:Nat} {n:Template} {D:Op} (r:Int) (d:spec_l02First N n D=some r) {t:Value} {x:Value} (i:World) (M:∀ c,B c→c<i.heap.size) (f:Bo B i (Pt 2 xI) t n) (O:Bo B i (Pt 2 cS) x D):Calls Tryz.prog 110 #[t,x] i (dW r i):=by
 unfold spec_l02First at d
 refine xV (L:=[(0,t),(1,x)]) func110 rfl rfl rfl (sc rfl (sc rfl sn)) (fun a F=>?_);have H:=Sep.start M;refine xP (xA 1 F rfl fun a F=>xJ (xC (xP (xA 1 F rfl fun a F=>xJ ?_))));obtain⟨E,d,A⟩:=xK d;refine xX (fun a w=>E= .nx ()∧Sk a 29 []∧Sep [] B i w []) ?_ ?_
 ·
  refine xW ?_;obtain⟨I,J,d⟩:=qE d;refine oU (fun g a w=>∃ (p:Nat) (j:List Rel),(p≤n.rels.length∧n.rels.drop p=j)∧j.length=g∧qJ I j p ()=some E∧Sk a 29 [(5,xG (p:Int)),(0,t),(1,x)]∧Sep [] B i w []) n.rels.length ?_ ?_
  ·
   exact⟨0,n.rels,⟨Nat.zero_le _,rfl⟩,rfl,d,F.su,H⟩
  intro g1 a w ⟨p,j,e,K,d,F,H⟩
  cases j with
  | nil=>
   replace d:=qH d;have P:=qG e.1 e.2;have z:=vA P;refine xC (xP (xA 2 F rfl fun a F=>oN F rfl rfl f fun a F=>oF (s':=1) kR F rfl rfl f xI.f1 fun a p1 Q F=>aY isAgg29 F rfl rfl H.sm Q fun a a4 R F=>oL underlying29 F rfl rfl R fun a i1 F=>xA 1 F rfl fun a F=>oY ?_));refine xF (qT F rfl z (oM (oR (oR (vH (xF ?_))))));exact⟨(vE d),F.sub sn,H⟩
  | cons x2 j=>
   subst K;replace e:=oO e.2;have S:=oZ e.2.1;obtain⟨a5,d,C⟩:=oV d;rw[J] at d;have z:=qM e.1;refine xC (xP (xA 2 F rfl fun a F=>oN F rfl rfl f fun a F=>oF (s':=1) kR F rfl rfl f xI.f1 fun a p2 T F=>aY isAgg29 F rfl rfl H.sm T fun a v2 U F=>oL underlying29 F rfl rfl U fun a G F=>xA 1 F rfl fun a F=>oY ?_));refine xF (qV F rfl z (xL (xF (xC ?_))));have V:=fE (Nat.le_of_lt e.1) G;have W:=zC e.1 G;refine xW (xC (xQ H (by kernel_rfl) (by kernel_rfl) (xR F rfl (fun w l=>xM F rfl) fun a F=>qN F rfl rfl f fun a F=>qF (s':=1) dA F rfl rfl f xI.f0 fun a p3 X F=>iB isAgg2 F rfl rfl H.q X fun a Y F=>xR F rfl (fun w l=>xM F rfl) fun a F=>xR F rfl (fun w l=>xM F rfl) fun a F=>qN F rfl rfl f fun a F=>qF (s':=1) kR F rfl rfl f xI.f1 (fun a p4 Z F=>?_))));refine qlS isAgg29 F rfl rfl H.q Z fun a v3 h7 F=>xR F rfl (fun w l=>xM F rfl) fun a F=>qI underlying29 sizeOf51 F rfl rfl rfl h7 S (fun a p5 h8 F=>?_);obtain⟨z1,c1,d⟩:=xB d;refine dD F rfl call139 rfl (fun w w' h l=>l.through h) (fun w l=>spec_l02Keeps_c z1 c1 w aA Y ((H.go l).a O) ((H.go l).a h8)) fun a F=>xR F rfl (fun w l=>fW F rfl) fun a F=>kA fun w H=>xF (qP F rfl (fun y=>?_) (fun y=>?_))
   ·
    replace d:=vR y d;refine xP (xA 2 F rfl fun a F=>xJ (xT (vJ (oE (oE ?_)))));replace d:=zR d C;refine vJ (oE ?_);replace d:=zQ d A;refine oE (xS F rfl (oD F rfl) ?_);obtain rfl:=oj d;exact⟨⟨rfl,H.bl⟩,V⟩
   replace d:=vQ y d;refine xL (qS (xF (xU (xA 1 F rfl fun a F=>qQ F rfl rfl rfl W fun a F=>xA 1 F rfl fun a F=>xJ ?_))));replace d:=qX d C;exact⟨_,Nat.lt_succ_self _,p+1,j,⟨e.1,e.2.2⟩,rfl,d,F.su,H⟩
 rintro a w ⟨rfl,F,H⟩
 have d:=xN A;refine xF (xP (xA 1 F rfl fun a F=>xJ (xT (xS F rfl (oD F rfl) ?_))));obtain rfl:=oj d;exact⟨⟨rfl,H.bl⟩,(show xZ (-1) by decide)⟩
def spec_l09Is (N:Nat) (d:Template) (e:Int):Option Bool:=
 xY (iF e) fun c=>
 xY (spec_l02First N d (Op.mk c.arity c.table)) fun f=>
 some ((decide (f<0)))
theorem spec_l09Is_c {B:Nat→Prop} {N:Nat} {i:Template} {e:Int} (r:Bool) (d:spec_l09Is N i e=some r) {h:Value} (f:World) (p:∀ c,B c→c<f.heap.size) (t:Bo B f (Pt 2 xI) h i) (n:xZ e):Calls Tryz.prog 57 #[h,xG e] f (zO (.bool r) f):=by
 unfold spec_l09Is at d
 refine xV (L:=[(0,h),(1,xG e)]) func57 rfl rfl rfl (sc rfl (sc rfl sn)) (fun a F=>?_);have H:=Sep.start p;refine xP (xA 1 F rfl fun a F=>qO (xA 1 F rfl fun a F=>?_));obtain⟨j,x,d⟩:=xB d;refine oG F rfl call28 rfl (spec_l09Op_c j x _ aA n) (fun a y w ⟨z,E,S,A⟩ F=>?_);subst y;have H:=H.r1 S n0;refine oA zeroValue27 F rfl rfl H fun a w I H F=>oWA (vs:=[xG j.arity,z]) sizeOf27 F rfl rfl rfl H (oc rfl (oc (H.l 1 rfl).one on)) rfl rfl fun w H=>qO (xA 1 F rfl fun a F=>?_);obtain⟨C,D,d⟩:=xB d;refine oKI F rfl call110 rfl H (spec_l02First_c C D _ aA (H.a t) (cS.b (H.g 0 rfl).bk A (H.l 1 rfl))) fun a w H G F=>xA 2 F rfl fun a F=>xJ (xT (xS F rfl (oD F rfl) ?_));obtain rfl:=oj d;exact⟨rfl,H.bl⟩
def eD (c:Template):Option Bool:=
 vT (σ:=Unit) (
  qJ (σ:=Unit) (ρ:=Bool) (fun (e:Nat) (d:Rel) (s:Unit)=>
    match s with
    | _=>
    if ((d.tuples.length:Int)==0) then
     some (.ret true)
    else
     some (.go ())) c.rels 0 ()) fun _=>
 some false
theorem spec_l09Empty_c {B:Nat→Prop} {h:Template} (r:Bool) (d:eD h=some r) {p:Value} (i:World) (I:∀ c,B c→c<i.heap.size) (j:Bo B i (Pt 2 xI) p h):Calls Tryz.prog 58 #[p] i (zO (.bool r) i):=by
 unfold eD at d
 refine xV (L:=[(0,p)]) func58 rfl rfl rfl (sc rfl sn) (fun a F=>?_);have H:=Sep.start I;refine xP (xA 1 F rfl fun a F=>xJ (xC (xP (xA 1 F rfl fun a F=>xJ ?_))));obtain⟨A,d,y⟩:=xK d;refine xX (fun a w=>A= .nx ()∧Sk a 23 []∧Sep [] B i w []) ?_ ?_
 ·
  refine xW ?_;obtain⟨D,E,d⟩:=qE d;refine oU (fun g a w=>∃ (n:Nat) (f:List Rel),(n≤h.rels.length∧h.rels.drop n=f)∧f.length=g∧qJ D f n ()=some A∧Sk a 23 [(3,xG (n:Int)),(0,p)]∧Sep [] B i w []) h.rels.length ?_ ?_
  ·
   exact⟨0,h.rels,⟨Nat.zero_le _,rfl⟩,rfl,d,F.su,H⟩
  intro Y a w ⟨n,f,e,G,d,F,H⟩
  cases f with
  | nil=>
   replace d:=qH d;have J:=qG e.1 e.2;have x:=vA J;refine xC (xP (xA 2 F rfl fun a F=>oN F rfl rfl j fun a F=>oF (s':=1) kR F rfl rfl j xI.f1 fun a Z K F=>aY isAgg29 F rfl rfl H.sm K fun a W M F=>oL underlying29 F rfl rfl M fun a i1 F=>xA 1 F rfl fun a F=>oY ?_));refine xF (qT F rfl x (oM (oR (oR (vH (xF ?_))))));exact⟨(vE d),F.sub sn,H⟩
  | cons x1 f=>
   subst G;replace e:=oO e.2;have N:=oZ e.2.1;obtain⟨X,d,z⟩:=oV d;rw[E] at d;have x:=qM e.1;refine xC (xP (xA 2 F rfl fun a F=>oN F rfl rfl j fun a F=>oF (s':=1) kR F rfl rfl j xI.f1 fun a p2 O F=>aY isAgg29 F rfl rfl H.sm O fun a v1 P F=>oL underlying29 F rfl rfl P fun a C F=>xA 1 F rfl fun a F=>oY ?_));refine xF (qV F rfl x (xL (xF (xC ?_))));have j1:=fE (Nat.le_of_lt e.1) C;have Q:=zC e.1 C;refine xW (xP (xA 1 F rfl fun a F=>oN F rfl rfl j fun a F=>oF (s':=1) kR F rfl rfl j xI.f1 fun a p3 R F=>aY isAgg29 F rfl rfl H.sm R fun a v2 S F=>xA 1 F rfl fun a F=>oI underlying29 sizeOf51 F rfl rfl rfl S N fun a p4 T F=>oF (s':=1) vW F rfl rfl T qD.f1 fun a p5 U F=>aY isAgg45 F rfl rfl H.sm U (fun a v3 V F=>?_)));refine oL underlying45 F rfl rfl V fun a i3 F=>xA 1 F rfl fun a F=>xJ (qP F rfl (fun t=>?_) (fun t=>?_))
   ·
    replace d:=vR t d;refine xP (xA 1 F rfl fun a F=>xJ (xT (vJ (oE (oE ?_)))));replace d:=zR d z;refine vJ (oE ?_);replace d:=zQ d y;refine oE (xS F rfl (oD F rfl) ?_);obtain rfl:=oj d;exact⟨rfl,H.bl⟩
   replace d:=vQ t d;refine xL (qS (xF (xU (xA 1 F rfl fun a F=>qQ F rfl rfl rfl Q fun a F=>xA 1 F rfl fun a F=>xJ ?_))));replace d:=qX d z;exact⟨_,Nat.lt_succ_self _,n+1,f,⟨e.1,e.2.2⟩,rfl,d,F.su,H⟩
 rintro a w ⟨rfl,F,H⟩
 have d:=xN y;refine xF (xP (xA 1 F rfl fun a F=>xJ (xT (xS F rfl (oD F rfl) ?_))));obtain rfl:=oj d;exact⟨rfl,H.bl⟩
def gV (c:Int):Option (List Int):=
 vT (σ:=(List Int)) (
  zH (σ:=(List Int)) (ρ:=(List Int)) (fun (d:Nat) (e:(List Int))=>
   xY (ap e ([(d:Int)])) fun f=>
   some (.go f)) c.toNat 0 []) fun h=>
 some h
theorem spec_l03Count_c {B:Nat→Prop} {e:Int} (r:(List Int)) (d:gV e=some r)  (h:World) (M:∀ c,B c→c<h.heap.size) (A:xZ e):Calls Tryz.prog 170 #[xG e] h (Gv (fun v w'=>∃ (C:Value),v=C∧Sep [] B h w' [rl 1 xH 2 C r])):=by
 unfold gV at d
 refine xV (L:=[(0,xG e)]) func170 rfl rfl rfl (sc rfl sn) (fun a F=>?_);have H:=Sep.start M;refine xP (xA 1 F rfl fun a F=>qO (oR0 (R:=xH) underlying25 sizeOf2 F rfl H fun a w N H F=>xA 1 F rfl fun a F=>xJ ?_));refine xC (xP (xA 1 F rfl fun a F=>xJ ?_));obtain⟨D,d,G⟩:=xK d;refine xX (fun a w=>∃ (t:List Int) (j:Value),D= .nx t∧Sk a 16 [(3,j)]∧Sep [] B h w [rl 1 xH 2 j t]) ?_ ?_
 ·
  refine xW ?_;obtain⟨I,J,d⟩:=zG d;refine oU (fun g a w=>∃ (f:Nat) (n:List Int) (p:Value),f+g=e.toNat∧zH I g f n=some D∧Sk a 16 [(4,xG (f:Int)),(0,xG e),(3,p)]∧Sep [] B h w [rl 1 xH 2 p n]) e.toNat ?_ ?_
  ·
   exact⟨0,[],N,(Nat.zero_add _),d,F.su,H⟩
  intro E a w ⟨f,n,p,i,d,F,H⟩
  cases E with
  | zero=>
   replace d:=vY d;have x:=kT i;refine xC (xP (xA 3 F rfl fun a F=>xJ (qT F rfl x (oM (oR ?_)))));refine oR (vH (xF ?_));exact⟨n,p,(vE d),F.su,H⟩
  | succ E=>
   obtain⟨U,d,K⟩:=vX d;rw[J] at d;have x:=zW i;refine xC (xP (xA 3 F rfl fun a F=>xJ (qV F rfl x (xL (xF ?_)))));refine xC ?_;have O:=k64I i A;have P:=bC i A;refine xW (xU (xA 2 F rfl fun a F=>oR1z (R:=xH) (y:=(f:Int)) underlying25 sizeOf2 zeroValue2 rfl rfl F rfl rfl H (Eo.int O) (fun a w V H F=>?_)));obtain⟨Q,S,d⟩:=xB d;refine oPL (sz:=1) (R:=xH) (z:=(xG 0)) (bytes:=8) underlying25 (by kernel_rfl) rfl rfl F rfl rfl rfl (H.s [1,0] rfl rfl) S fun a w T H F=>xA 1 F rfl fun a F=>oY (qS (xF (xU (xA 1 F rfl fun a F=>qQ F rfl rfl rfl P fun a F=>xA 1 F rfl fun a F=>xJ ?_))));replace d:=qX d K;exact⟨_,Nat.lt_succ_self _,f+1,Q,T,(by omega),d,F.su,H⟩
 rintro a w ⟨t,j,rfl,F,H⟩
 have d:=xN G;refine xF (xP (xA 2 F rfl fun a F=>xJ (xT (xS F rfl (oD F rfl) ?_))));obtain rfl:=oj d;exact⟨_,rfl,j,rfl,H⟩
def iU (c:Template) (d:Instance):Option (List (List Int)):=
 vT (σ:=(List (List Int))) (
  zH (σ:=(List (List Int))) (ρ:=(List (List Int))) (fun(j:Nat) (e:(List (List Int)))=>
   xY (gV c.size) fun f=>
   xY (ap e ([f])) fun h=>
   some (.go h)) d.vars.toNat 0 []) fun i=>
 some i
theorem spec_l05Full_c {B:Nat→Prop} {G:Template} {i:Instance} (r:(List (List Int))) (d:iU G i=some r) {j:Value} {n:Value} (e:World) (U:∀ c,B c→c<e.heap.size) (I:Bo B e (Pt 2 xI) j G) (p:Bo B e (Pt 2 xO) n i):Calls Tryz.prog 140 #[j,n] e (Gv (fun v w'=>∃ (E:Value),v=E∧Sep [] B e w' [rl 1 (vO 1 xH) 25 E r])):=by
 unfold iU at d
 refine xV (L:=[(0,j),(1,n)]) func140 rfl rfl rfl (sc rfl (sc rfl sn)) (fun a F=>?_);have H:=Sep.start U;refine xP (xA 1 F rfl fun a F=>qO (oR0 (R:=(vO 1 xH)) underlying45 sizeOf25 F rfl H fun a w V H F=>xA 1 F rfl fun a F=>xJ ?_));refine xC (xP (xA 1 F rfl fun a F=>xJ ?_));obtain⟨J,d,O⟩:=xK d;refine xX (fun a w=>∃ (C:List (List Int)) (t:Value),J= .nx C∧Sk a 25 [(5,t)]∧Sep [] B e w [rl 1 (vO 1 xH) 25 t C]) ?_ ?_
 ·
  refine xW ?_;obtain⟨P,Q,d⟩:=zG d;refine oU (fun g a w=>∃ (f:Nat) (x:List (List Int)) (A:Value),f+g=i.vars.toNat∧zH P g f x=some J∧Sk a 25 [(6,xG (f:Int)),(0,j),(1,n),(5,A)]∧Sep [] B e w [rl 1 (vO 1 xH) 25 A x]) i.vars.toNat ?_ ?_
  ·
   exact⟨0,[],V,(Nat.zero_add _),d,F.su,H⟩
  intro K a w ⟨f,x,A,h,d,F,H⟩
  cases K with
  | zero=>
   replace d:=vY d;have D:=kT h;refine xC (xP (xA 2 F rfl fun a F=>oN F rfl rfl p fun a F=>oF (s':=1) kD F rfl rfl p xO.f0 fun a p1 W F=>aN isAgg2 F rfl rfl H.sm W fun a i1 F=>xA 1 F rfl fun a F=>xJ ?_));refine qT F rfl D (oM (oR (oR (vH (xF ?_)))));exact⟨x,A,(vE d),F.su,H⟩
  | succ K=>
   obtain⟨a7,d,T⟩:=vX d;rw[Q] at d;have D:=zW h;refine xC (xP (xA 2 F rfl fun a F=>oN F rfl rfl p fun a F=>oF (s':=1) kD F rfl rfl p xO.f0 fun a p2 X F=>aN isAgg2 F rfl rfl H.sm X fun a M F=>xA 1 F rfl fun a F=>xJ ?_));refine qV F rfl D (xL (xF (xC ?_)));have j1:=k64I h M;have Y:=bC h M;refine xW (xU (xA 2 F rfl fun a F=>oN F rfl rfl I fun a F=>oF (s':=1) dA F rfl rfl I xI.f0 fun a p3 Z F=>aN isAgg2 F rfl rfl H.sm Z (fun a i3 F=>?_)));obtain⟨N,c1,d⟩:=xB d;refine oG F rfl call170 rfl (spec_l03Count_c N c1 _ aA i3) (fun a vv w ⟨v5,a6,S⟩ F=>?_);subst vv;have H:=H.r1 S n0;have H:=H.os;refine oR1L (R:=(vO 1 xH)) (y:=N) underlying45 sizeOf25 zeroValue25 rfl rfl F rfl rfl H El.sl (fun a w v6 H F=>?_);obtain⟨z2,c2,d⟩:=xB d;refine oPL (sz:=1) (R:=(vO 1 xH)) (z:=(aE)) (bytes:=24) underlying45 (by kernel_rfl) rfl rfl F rfl rfl rfl (H.s [1,0] rfl rfl) c2 fun a w v7 H F=>xA 1 F rfl fun a F=>oY (qS (xF (xU (xA 1 F rfl fun a F=>qQ F rfl rfl rfl Y fun a F=>xA 1 F rfl fun a F=>xJ ?_))));replace d:=qX d T;exact⟨_,Nat.lt_succ_self _,f+1,z2,v7,(by omega),d,F.su,H⟩
 rintro a w ⟨C,t,rfl,F,H⟩
 have d:=xN O;refine xF (xP (xA 2 F rfl fun a F=>xJ (xT (xS F rfl (oD F rfl) ?_))));obtain rfl:=oj d;exact⟨_,rfl,t,rfl,H⟩
end Go.Proofs.YtgnfibiaaipibaaGreat
