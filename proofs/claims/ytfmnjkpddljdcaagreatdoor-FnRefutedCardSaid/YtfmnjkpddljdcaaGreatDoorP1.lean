import Derived.Test.YtfmnjkpddljdcaaGreatDoorZ
import Derived.Test.YtfmnjkpddljdcaaGreatDoorNG
import Derived.Test.YtfmnjkpddljdcaaGreatDoorNZ
namespace Go.Proofs.YtfmnjkpddljdcaaGreatDoor
open Go.Proofs.Tryz
set_option maxHeartbeats 1000000
set_option linter.unusedVariables false
set_option linter.unusedSimpArgs false
set_option maxRecDepth 100000
open Go.RowKit
def bE (c d e:Int):Option Bool:=
 kY (σ:=Bool) (
  if (decide (d≤c)) then  some (.nx (decide (c≤e))) else  some (.nx false)) fun f=>
 some f
theorem cU {B:Nat→Prop} {e h i:Int} (r:Bool) (d:bE e h i=some r)  (j:World) (t:∀ c,B c→c<j.heap.size) (A:xS e) (C:xS h) (D:xS i):Calls Tryz.prog 59 #[xF e,xF h,xF i] j (bK (.bool r) j):=by
 unfold bE at d
 refine xW (L:=[(0,xF e),(1,xF h),(2,xF i)]) func59 rfl rfl rfl (sc rfl (sc rfl (sc rfl sn))) (fun a F=>?_);have H:=Sep.start t;refine xX (xA 1 F rfl fun a F=>xJ (xG ?_));obtain⟨y,d,p⟩:=xV d;refine qG (fun a w=>∃ (n:Bool),y= .nx n∧Sk a 15 [(6,.bool n)]∧Sep [] B j w []) ?_ ?_
 ·
  refine oO (xA 4 F rfl fun a F=>?_)
  rcases zC (decide (h≤e)) with f | f
  ·
   replace d:=zW f d;have F:=F.eb 10 rfl f;refine xA 5 F rfl fun a F=>xJ ?_;exact⟨(decide (e≤i)),(kQ d),F.su,H⟩
  replace d:=zV f d;have F:=F.eb 10 rfl f;refine xA 5 F rfl fun a F=>xJ ?_;exact⟨false,(kQ d),F.su,H⟩
 rintro a w ⟨n,rfl,F,H⟩
 have d:=oJ p;refine xH (xP (xR F rfl (xZ F rfl) ?_));obtain rfl:=oj d;exact⟨rfl,H.bl⟩
def jK (c:Int):Option Bool:=
 xY (bE c 1 4) fun d=>
 some d
theorem tM {B:Nat→Prop} {d:Int} (r:Bool) (e:jK d=some r)  (f:World) (i:∀ c,B c→c<f.heap.size) (h:xS d):Calls Tryz.prog 94 #[xF d] f (bK (.bool r) f):=by
 unfold jK at e
 refine xW (L:=[(0,xF d)]) func94 rfl rfl rfl (sc rfl sn) (fun a F=>?_);have H:=Sep.start i;refine xX (xA 1 F rfl fun a F=>zR (xA 1 F rfl fun a F=>?_));obtain⟨j,n,e⟩:=xB e;refine oK F rfl iW rfl H (cU j n _ aA h (show xS (1) by decide) (show xS (4) by decide)) fun a w H F=>xA 1 F rfl fun a F=>xJ (xP (xR F rfl (xZ F rfl) ?_));obtain rfl:=oj e;exact⟨rfl,H.bl⟩
def jY (c:Int):Option Bool:=
 xY (bE c 1 4) fun d=>
 some d
theorem xCb {B:Nat→Prop} {d:Int} (r:Bool) (e:jY d=some r)  (f:World) (i:∀ c,B c→c<f.heap.size) (h:xS d):Calls Tryz.prog 129 #[xF d] f (bK (.bool r) f):=by
 unfold jY at e
 refine xW (L:=[(0,xF d)]) func129 rfl rfl rfl (sc rfl sn) (fun a F=>?_);have H:=Sep.start i;refine xX (xA 1 F rfl fun a F=>zR (xA 1 F rfl fun a F=>?_));obtain⟨j,n,e⟩:=xB e;refine oK F rfl iW rfl H (cU j n _ aA h (show xS (1) by decide) (show xS (4) by decide)) fun a w H F=>xA 1 F rfl fun a F=>xJ (xP (xR F rfl (xZ F rfl) ?_));obtain rfl:=oj e;exact⟨rfl,H.bl⟩
def iJ (d e:Int) (c:List Int):Option Bool:=
 kY (σ:=Unit) (
  qW (σ:=Unit) (ρ:=Bool) (fun (j:Nat) (f:Int) (s:Unit)=>
    match s with
    | _=>
    xY (ck (d - 1)) fun h=>
    xY (bE f 0 h) fun i=>
    if (!i) then
     some (.ret false)
    else
     some (.go ())) c 0 ()) fun _=>
 some (((c.length:Int)==e))
theorem xBu {B:Nat→Prop} {p h:Int} {i:List Int} (r:Bool) (d:iJ p h i=some r) {t:Value} (j:World) (N:∀ c,B c→c<j.heap.size) (V:xS p) (W:xS h) (y:Bo B j (Sl 1 xM) t i):Calls Tryz.prog 130 #[xF p,xF h,t] j (bK (.bool r) j):=by
 unfold iJ at d
 refine xW (L:=[(0,xF p),(1,xF h),(2,t)]) func130 rfl rfl rfl (sc rfl (sc rfl (sc rfl sn))) (fun a F=>?_);have H:=Sep.start N;refine xX (xA 1 F rfl fun a F=>xJ (xG (xX (xA 1 F rfl fun a F=>xJ ?_))));obtain⟨E,d,C⟩:=xV d;refine qG (fun a w=>E= .nx ()∧Sk a 26 [(1,xF h),(2,t)]∧Sep [] B j w []) ?_ ?_
 ·
  refine qM ?_;obtain⟨K,M,d⟩:=vY d;refine vT (fun g a w=>∃ (n:Nat) (f:List Int),(n≤i.length∧i.drop n=f)∧f.length=g∧qW K f n ()=some E∧Sk a 26 [(7,xF (n:Int)),(0,xF p),(1,xF h),(2,t)]∧Sep [] B j w []) i.length ?_ ?_
  ·
   exact⟨0,i,⟨Nat.zero_le _,rfl⟩,rfl,d,F.su,H⟩
  intro Y a w ⟨n,f,e,J,d,F,H⟩
  cases f with
  | nil=>
   replace d:=vX d;have O:=vZ e.1 e.2;have l1:=kW O;refine xG (xX (xA 2 F rfl fun a F=>oL xC F rfl rfl y fun a Z F=>xA 1 F rfl fun a F=>xJ (aC F rfl l1 (vU ?_))));refine vV (vV (bC (xH ?_)));exact⟨(kQ d),F.su,H⟩
  | cons x3 f=>
   subst J;replace e:=qY e.2;have P:=zI e.2.1;obtain⟨X,d,D⟩:=vE d;rw[M] at d;have l1:=zT e.1;refine xG (xX (xA 2 F rfl fun a F=>oL xC F rfl rfl y fun a G F=>xA 1 F rfl fun a F=>xJ (aD F rfl l1 (xT ?_))));refine xH (xG ?_);have j1:=k64 (Nat.le_of_lt e.1) G;have Q:=bG e.1 G;refine qM (xX (xA 2 F rfl fun a F=>oI xC xI F rfl rfl rfl y P fun a p1 R F=>olI xN F rfl rfl H.sm R fun a S F=>xA 1 F rfl fun a F=>?_));obtain⟨z1,I,d⟩:=xB d;refine gY F rfl rfl rfl I (fun a F=>?_);obtain⟨T,U,d⟩:=xB d;refine oK F rfl iW rfl H (cU T U _ aA S (show xS (0) by decide) (bD I)) fun a w H F=>xA 1 F rfl fun a F=>xJ (vK F rfl (fun A=>?_) (fun A=>?_))
   ·
    replace d:=zW A d;refine xX (xA 1 F rfl fun a F=>xJ (xP (zZ (qH (qH ?_)))));replace d:=bQ d D;refine zZ (qH ?_);replace d:=bR d C;refine qH (xR F rfl (xZ F rfl) ?_);obtain rfl:=oj d;exact⟨rfl,H.bl⟩
   replace d:=zV A d;refine xT (zG (xH (oO (xA 1 F rfl fun a F=>kO F rfl rfl rfl Q fun a F=>xA 1 F rfl fun a F=>xJ ?_))));replace d:=aB d D;exact⟨_,Nat.lt_succ_self _,n+1,f,⟨e.1,e.2.2⟩,rfl,d,F.su,H⟩
 rintro a w ⟨rfl,F,H⟩
 have d:=oJ C;refine xH (xX (xA 1 F rfl fun a F=>oL xC F rfl rfl y fun a i4 F=>xA 3 F rfl fun a F=>xJ (xP ?_)));refine xR F rfl (xZ F rfl) ?_;obtain rfl:=oj d;exact⟨rfl,H.bl⟩
def gK (e f:List Int):Option Bool:=
 kY (σ:=Unit) (
  qW (σ:=Unit) (ρ:=Bool) (fun (h:Nat) (c:Int) (s:Unit)=>
    match s with
    | _=>
    xY (ix f (h:Int)) fun d=>
    if (c != d) then
     some (.ret ((decide (c<d))))
    else
     some (.go ())) e 0 ()) fun _=>
 some false
theorem xAw {B:Nat→Prop} {i D:List Int} (r:Bool) (d:gK i D=some r) {n:Value} {p:Value} (f:World) (P:∀ c,B c→c<f.heap.size) (t:Bo B f (Sl 1 xM) n i) (E:Bo B f (Sl 1 xM) p D):Calls Tryz.prog 131 #[n,p] f (bK (.bool r) f):=by
 unfold gK at d
 refine xW (L:=[(0,n),(1,p)]) func131 rfl rfl rfl (sc rfl (sc rfl sn)) (fun a F=>?_);have H:=Sep.start P;refine xX (xA 1 F rfl fun a F=>xJ (xG (xX (xA 1 F rfl fun a F=>xJ ?_))));obtain⟨G,d,A⟩:=xV d;refine qG (fun a w=>G= .nx ()∧Sk a 30 []∧Sep [] B f w []) ?_ ?_
 ·
  refine qM ?_;obtain⟨M,N,d⟩:=vY d;refine vT (fun g a w=>∃ (j:Nat) (h:List Int),(j≤i.length∧i.drop j=h)∧h.length=g∧qW M h j ()=some G∧Sk a 30 [(5,xF (j:Int)),(0,n),(1,p)]∧Sep [] B f w []) i.length ?_ ?_
  ·
   exact⟨0,i,⟨Nat.zero_le _,rfl⟩,rfl,d,F.su,H⟩
  intro X a w ⟨j,h,e,O,d,F,H⟩
  cases h with
  | nil=>
   replace d:=vX d;have Q:=vZ e.1 e.2;have l1:=kW Q;refine xG (xX (xA 2 F rfl fun a F=>oL xC F rfl rfl t fun a Y F=>xA 1 F rfl fun a F=>xJ (aC F rfl l1 (vU ?_))));refine vV (vV (bC (xH ?_)));exact⟨(kQ d),F.sub sn,H⟩
  | cons Z h=>
   subst O;replace e:=qY e.2;have I:=zI e.2.1;obtain⟨W,d,C⟩:=vE d;rw[N] at d;have l1:=zT e.1;refine xG (xX (xA 2 F rfl fun a F=>oL xC F rfl rfl t fun a J F=>xA 1 F rfl fun a F=>xJ (aD F rfl l1 (xT ?_))));refine xH (xG ?_);have j1:=k64 (Nat.le_of_lt e.1) J;have R:=bG e.1 J;refine qM (xG (xQa H (oM F rfl rfl fun a F=>oM F rfl rfl fun a F=>qI xC xI F rfl rfl rfl t I fun a p1 S F=>qlI xN F rfl rfl H.q S fun a i3 F=>oM F rfl rfl fun a F=>oM F rfl rfl (fun a F=>?_))));obtain⟨z1,K,d⟩:=xB d;refine qI xC xI F rfl rfl rfl E K fun a p2 T F=>qlI xN F rfl rfl H.q T fun a i4 F=>zH F rfl (fun w l=>uN F rfl rfl) fun a F=>aF fun w H=>xH (vK F rfl (fun y=>?_) (fun y=>?_))
   ·
    replace d:=zW y d;refine xG (xQa H (oM F rfl rfl fun a F=>oM F rfl rfl fun a F=>qI xC xI F rfl rfl rfl t I fun a p3 U F=>qlI xN F rfl rfl H.q U fun a i5 F=>oM F rfl rfl fun a F=>oM F rfl rfl fun a F=>qI xC xI F rfl rfl rfl E K fun a p4 V F=>qlI xN F rfl rfl H.q V fun a i6 F=>zH F rfl (fun w l=>tP F rfl rfl) (fun a F=>?_)));refine gS F rfl rfl fun a F=>aF fun w H=>xH (xP (zZ (qH (qH ?_))));replace d:=bQ d C;refine zZ (qH ?_);replace d:=bR d A;refine qH (xR F rfl (xZ F rfl) ?_);obtain rfl:=oj d;exact⟨rfl,H.bl⟩
   replace d:=zV y d;refine xT (zG (xH (oO (xA 1 F rfl fun a F=>kO F rfl rfl rfl R fun a F=>xA 1 F rfl fun a F=>xJ ?_))));replace d:=aB d C;exact⟨_,Nat.lt_succ_self _,j+1,h,⟨e.1,e.2.2⟩,rfl,d,F.su,H⟩
 rintro a w ⟨rfl,F,H⟩
 have d:=oJ A;refine xH (xX (xA 1 F rfl fun a F=>xJ (xP (xR F rfl (xZ F rfl) ?_))));obtain rfl:=oj d;exact⟨rfl,H.bl⟩
def lG (d:Int) (c:Rel):Option Bool:=
 kY (σ:=Bool) (
  xY (jK d) fun h=>
  if (!h) then  some (.nx true) else  xY (jY c.arity) fun i=>
   some (.nx (!i))) fun j=>
 if j then
  some false
 else
  kY (σ:=Unit) (
   qW (σ:=Unit) (ρ:=Bool) (fun (e:Nat) (f:(List Int)) (s:Unit)=>
     match s with
     | _=>
     kY (σ:=Bool) (
      xY (iJ d c.arity f) fun n=>
      if (!n) then  some (.nx true) else  if (decide (0<(e:Int))) then  xY (ck ((e:Int) - 1)) fun p=>
        xY (ix c.tuples p) fun t=>
        xY (gK t f) fun y=>
        some (.nx (!y)) else  some (.nx false)) fun A=>
     if A then
      some (.ret false)
     else
      some (.go ())) c.tuples 0 ()) fun _=>
  some true
theorem xGu {B:Nat→Prop} {n:Int} {t:Rel} (r:Bool) (d:lG n t=some r) {y:Value} (i:World) (hN:∀ c,B c→c<i.heap.size) (K:xS n) (e:Bo B i (Pt 2 vG) y t):Calls Tryz.prog 93 #[xF n,y] i (bK (.bool r) i):=by
 unfold lG at d
 refine xW (L:=[(0,xF n),(1,y)]) func93 rfl rfl rfl (sc rfl (sc rfl sn)) (fun a F=>?_);have H:=Sep.start hN;refine xX (xA 1 F rfl fun a F=>xJ (xG (xG ?_)));obtain⟨o1,d,V⟩:=xV d;refine qG (fun a w=>∃ (I:Bool),o1= .nx I∧Sk a 63 [(0,xF n),(1,y),(16,.bool I)]∧Sep [] B i w []) ?_ ?_
 ·
  refine oO (xA 1 F rfl fun a F=>?_);obtain⟨O,c1,d⟩:=xB d;refine oK F rfl call94 rfl H (tM O c1 _ aA K) fun a w H F=>xA 2 F rfl fun a F=>?_
  rcases zC (!O) with A | A
  ·
   replace d:=zW A d;have F:=F.eb 9 rfl A;refine xA 7 F rfl fun a F=>xJ ?_;exact⟨true,(kQ d),F.su,H⟩
  replace d:=zV A d;have F:=F.eb 9 rfl A;refine xA 1 F rfl fun a F=>oN F rfl rfl e fun a F=>oF (s':=1) sS F rfl rfl e vG.f0 fun a p1 h1 F=>olI xN F rfl rfl H.sm h1 (fun a i1 F=>?_);obtain⟨P,c2,d⟩:=xB d;refine oK F rfl call129 rfl H (xCb P c2 _ aA i1) fun a w H F=>xA 2 F rfl fun a F=>xJ ?_;exact⟨(!P),(kQ d),F.su,H⟩
 rintro a w ⟨I,rfl,F,H⟩
 have d:=oJ V;refine xH (vK F rfl (fun E=>?_) (fun E=>?_))
 ·
  replace d:=zW E d;refine xX (xA 1 F rfl fun a F=>xJ (xP (qH (xR F rfl (xZ F rfl) ?_))));obtain rfl:=oj d;exact⟨rfl,H.bl⟩
 replace d:=zV E d;refine xT (xH (xG (xX (xA 1 F rfl fun a F=>xJ ?_))));obtain⟨Q,d,M⟩:=xV d;refine qG (fun a w=>Q= .nx ()∧Sk a 63 []∧Sep [] B i w []) ?_ ?_
 ·
  refine qM ?_;obtain⟨W,X,d⟩:=vY d;refine vT (fun g a w=>∃ (j:Nat) (p:List (List Int)),(j≤t.tuples.length∧t.tuples.drop j=p)∧p.length=g∧qW W p j ()=some Q∧Sk a 63 [(5,xF (j:Int)),(0,xF n),(1,y)]∧Sep [] B i w []) t.tuples.length ?_ ?_
  ·
   exact⟨0,t.tuples,⟨Nat.zero_le _,rfl⟩,rfl,d,F.su,H⟩
  intro g1 a w ⟨j,p,f,Y,d,F,H⟩
  cases p with
  | nil=>
   replace d:=vX d;have q1:=vZ f.1 f.2;have l1:=kW q1;refine xG (xX (xA 2 F rfl fun a F=>oN F rfl rfl e fun a F=>oF (s':=1) fG F rfl rfl e vG.f1 fun a p2 h2 F=>olS zD F rfl rfl H.sm h2 fun a v2 h3 F=>oL xK F rfl rfl h3 fun a i2 F=>xA 1 F rfl fun a F=>vP ?_));refine xH (aC F rfl l1 (vU (vV (vV (bC (xH ?_))))));exact⟨(kQ d),F.sub sn,H⟩
  | cons x2 p=>
   subst Y;replace f:=qY f.2;have R:=zI f.2.1;obtain⟨az,d,N⟩:=vE d;rw[X] at d;have l1:=zT f.1;refine xG (xX (xA 2 F rfl fun a F=>oN F rfl rfl e fun a F=>oF (s':=1) fG F rfl rfl e vG.f1 fun a p3 h4 F=>olS zD F rfl rfl H.sm h4 fun a v3 h5 F=>oL xK F rfl rfl h5 fun a S F=>xA 1 F rfl fun a F=>vP ?_));refine xH (aD F rfl l1 (xT (xH (xG ?_))));have j1:=k64 (Nat.le_of_lt f.1) S;have m1:=bG f.1 S;refine qM (xG ?_);obtain⟨o3,d,Z⟩:=xV d;refine qG (fun a w=>∃ (J:Bool),o3= .nx J∧Sk a 63 [(0,xF n),(1,y),(5,xF (j:Int)),(62,.bool J)]∧Sep [] B i w []) ?_ ?_
   ·
    refine xQa H (oM F rfl rfl fun a F=>oM F rfl rfl fun a F=>qN F rfl rfl e fun a F=>qF (s':=1) sS F rfl rfl e vG.f0 fun a p4 h6 F=>qlI xN F rfl rfl H.q h6 fun a i4 F=>oM F rfl rfl fun a F=>qN F rfl rfl e fun a F=>qF (s':=1) fG F rfl rfl e vG.f1 fun a p5 h7 F=>qlS zD F rfl rfl H.q h7 fun a v4 h8 F=>oM F rfl rfl (fun a F=>?_));refine qI xK xU F rfl rfl rfl h8 R fun a p6 h9 F=>qlS qE F rfl rfl H.q h9 (fun a v5 a0 F=>?_);obtain⟨T,c3,d⟩:=xB d;refine dQ F rfl call130 rfl (fun w w' h l=>l.through h) (fun w l=>xBu T c3 w aA K i4 ((H.go l).a a0)) fun a F=>gU F rfl rfl fun a F=>oM F rfl rfl (fun a F=>?_)
    rcases zC (!T) with C | C
    ·
     replace d:=zW C d;have F:=F.eb 40 rfl C;refine oV F rfl rfl fun a F=>oV F rfl rfl fun a F=>oV F rfl rfl fun a F=>oV F rfl rfl fun a F=>oV F rfl rfl fun a F=>oV F rfl rfl fun a F=>oV F rfl rfl fun a F=>oV F rfl rfl fun a F=>oV F rfl rfl fun a F=>oV F rfl rfl fun a F=>oV F rfl rfl (fun a F=>?_);refine oV F rfl rfl fun a F=>oV F rfl rfl fun a F=>oV F rfl rfl fun a F=>oV F rfl rfl fun a F=>oV F rfl rfl fun a F=>oV F rfl rfl fun a F=>oV F rfl rfl fun a F=>oV F rfl rfl fun a F=>oV F rfl rfl fun a F=>oV F rfl rfl fun a F=>bH F rfl rfl rfl (fun a F=>?_);refine aF fun w H=>xH ?_;exact⟨true,(kQ d),F.su,H⟩
    replace d:=zV C d;have F:=F.eb 40 rfl C;refine oM F rfl rfl fun a F=>zH F rfl (fun w l=>xGc F rfl rfl) fun a F=>oM F rfl rfl (fun a F=>?_)
    rcases zC (decide (0<(j:Int))) with D | D
    ·
     replace d:=zW D d;have F:=F.eb 43 rfl D;refine oM F rfl rfl fun a F=>qN F rfl rfl e fun a F=>qF (s':=1) fG F rfl rfl e vG.f1 fun a p7 a1 F=>qlS zD F rfl rfl H.q a1 fun a v6 a2 F=>oM F rfl rfl (fun a F=>?_);obtain⟨z4,c4,d⟩:=xB d;refine zH F rfl (fun w l=>nU F rfl rfl c4) (fun a F=>?_);obtain⟨z5,c5,d⟩:=xB d;refine qI xK xU F rfl rfl rfl a2 c5 fun a p8 a3 F=>qlS qE F rfl rfl H.q a3 fun a v7 a4 F=>oM F rfl rfl fun a F=>qN F rfl rfl e fun a F=>qF (s':=1) fG F rfl rfl e vG.f1 fun a p9 a5 F=>qlS zD F rfl rfl H.q a5 fun a v8 a6 F=>oM F rfl rfl fun a F=>qI xK xU F rfl rfl rfl a6 R fun a b0 a7 F=>qlS qE F rfl rfl H.q a7 (fun a v9 a8 F=>?_);obtain⟨U,c6,d⟩:=xB d;refine dQ F rfl call131 rfl (fun w w' h l=>l.through h) (fun w l=>xAw U c6 w aA ((H.go l).a a4) ((H.go l).a a8)) fun a F=>gU F rfl rfl fun a F=>bH F rfl rfl rfl fun a F=>cG F rfl rfl rfl fun a F=>aF fun w H=>xH ?_;exact⟨(!U),(kQ d),F.su,H⟩
    replace d:=zV D d;have F:=F.eb 43 rfl D;refine oV F rfl rfl fun a F=>oV F rfl rfl fun a F=>oV F rfl rfl fun a F=>oV F rfl rfl fun a F=>oV F rfl rfl fun a F=>oV F rfl rfl fun a F=>oV F rfl rfl fun a F=>oV F rfl rfl fun a F=>oV F rfl rfl fun a F=>oV F rfl rfl fun a F=>oV F rfl rfl (fun a F=>?_);refine oV F rfl rfl fun a F=>oV F rfl rfl fun a F=>oV F rfl rfl fun a F=>oV F rfl rfl fun a F=>oV F rfl rfl fun a F=>oV F rfl rfl fun a F=>cG F rfl rfl rfl fun a F=>cG F rfl rfl rfl fun a F=>aF fun w H=>xH ?_;exact⟨false,(kQ d),F.su,H⟩
   rintro a w ⟨J,rfl,F,H⟩
   have d:=oJ Z;refine xH (vK F rfl (fun G=>?_) (fun G=>?_))
   ·
    replace d:=zW G d;refine xX (xA 1 F rfl fun a F=>xJ (xP (zZ (qH (qH ?_)))));replace d:=bQ d N;refine zZ (qH ?_);replace d:=bR d M;refine qH (xR F rfl (xZ F rfl) ?_);obtain rfl:=oj d;exact⟨rfl,H.bl⟩
   replace d:=zV G d;refine xT (zG (xH (oO (xA 1 F rfl fun a F=>kO F rfl rfl rfl m1 fun a F=>xA 1 F rfl fun a F=>xJ ?_))));replace d:=aB d N;exact⟨_,Nat.lt_succ_self _,j+1,p,⟨f.1,f.2.2⟩,rfl,d,F.su,H⟩
 rintro a w ⟨rfl,F,H⟩
 have d:=oJ M;refine xH (xX (xA 1 F rfl fun a F=>xJ (xP (xR F rfl (xZ F rfl) ?_))));obtain rfl:=oj d;exact⟨rfl,H.bl⟩
def gL (c:Template):Option Bool:=
 kY (σ:=Unit) (
  qW (σ:=Unit) (ρ:=Bool) (fun (i:Nat) (d:Rel) (s:Unit)=>
    match s with
    | _=>
    xY (lG c.size d) fun e=>
    if (!e) then
     some (.ret false)
    else
     some (.go ())) c.rels 0 ()) fun _=>
 kY (σ:=Bool) (
  xY (jK c.size) fun f=>
  if f then  some (.nx (decide ((c.rels.length:Int)≤6))) else  some (.nx false)) fun h=>
 some h
theorem yD {B:Nat→Prop} {i:Template} (r:Bool) (d:gL i=some r) {y:Value} (j:World) (R:∀ c,B c→c<j.heap.size) (e:Bo B j (Pt 2 xL) y i):Calls Tryz.prog 58 #[y] j (bK (.bool r) j):=by
 unfold gL at d
 refine xW (L:=[(0,y)]) func58 rfl rfl rfl (sc rfl sn) (fun a F=>?_);have H:=Sep.start R;refine xX (xA 1 F rfl fun a F=>xJ (xG (xX (xA 1 F rfl fun a F=>xJ ?_))));obtain⟨G,d,D⟩:=xV d;refine qG (fun a w=>G= .nx ()∧Sk a 38 [(0,y)]∧Sep [] B j w []) ?_ ?_
 ·
  refine qM ?_;obtain⟨K,M,d⟩:=vY d;refine vT (fun g a w=>∃ (p:Nat) (n:List Rel),(p≤i.rels.length∧i.rels.drop p=n)∧n.length=g∧qW K n p ()=some G∧Sk a 38 [(3,xF (p:Int)),(0,y)]∧Sep [] B j w []) i.rels.length ?_ ?_
  ·
   exact⟨0,i.rels,⟨Nat.zero_le _,rfl⟩,rfl,d,F.su,H⟩
  intro g1 a w ⟨p,n,f,N,d,F,H⟩
  cases n with
  | nil=>
   replace d:=vX d;have S:=vZ f.1 f.2;have l1:=kW S;refine xG (xX (xA 2 F rfl fun a F=>oN F rfl rfl e fun a F=>oF (s':=1) cD F rfl rfl e xL.f1 fun a p1 T F=>olS kM F rfl rfl H.sm T fun a aa U F=>oL qP F rfl rfl U fun a i1 F=>xA 1 F rfl fun a F=>vP ?_));refine xH (aC F rfl l1 (vU (vV (vV (bC (xH ?_))))));exact⟨(kQ d),F.su,H⟩
  | cons x1 n=>
   subst N;replace f:=qY f.2;have V:=zI f.2.1;obtain⟨ab,d,E⟩:=vE d;rw[M] at d;have l1:=zT f.1;refine xG (xX (xA 2 F rfl fun a F=>oN F rfl rfl e fun a F=>oF (s':=1) cD F rfl rfl e xL.f1 fun a p2 W F=>olS kM F rfl rfl H.sm W fun a v1 X F=>oL qP F rfl rfl X fun a I F=>xA 1 F rfl fun a F=>vP ?_));refine xH (aD F rfl l1 (xT (xH (xG ?_))));have j1:=k64 (Nat.le_of_lt f.1) I;have Y:=bG f.1 I;refine qM (xG (xQa H (oM F rfl rfl fun a F=>qN F rfl rfl e fun a F=>qF (s':=1) sZ F rfl rfl e xL.f0 fun a p3 Z F=>qlI xN F rfl rfl H.q Z fun a i3 F=>oM F rfl rfl fun a F=>qN F rfl rfl e fun a F=>qF (s':=1) cD F rfl rfl e xL.f1 fun a p4 h6 F=>qlS kM F rfl rfl H.q h6 (fun a v2 h7 F=>?_))));refine oM F rfl rfl fun a F=>qI qP oE F rfl rfl rfl h7 V (fun a p5 h8 F=>?_);obtain⟨z1,c1,d⟩:=xB d;refine dQ F rfl call93 rfl (fun w w' h l=>l.through h) (fun w l=>xGu z1 c1 w aA i3 ((H.go l).a h8)) fun a F=>gU F rfl rfl fun a F=>aF fun w H=>xH (vK F rfl (fun A=>?_) (fun A=>?_))
   ·
    replace d:=zW A d;refine xX (xA 1 F rfl fun a F=>xJ (xP (zZ (qH (qH ?_)))));replace d:=bQ d E;refine zZ (qH ?_);replace d:=bR d D;refine qH (xR F rfl (xZ F rfl) ?_);obtain rfl:=oj d;exact⟨rfl,H.bl⟩
   replace d:=zV A d;refine xT (zG (xH (oO (xA 1 F rfl fun a F=>kO F rfl rfl rfl Y fun a F=>xA 1 F rfl fun a F=>xJ ?_))));replace d:=aB d E;exact⟨_,Nat.lt_succ_self _,p+1,n,⟨f.1,f.2.2⟩,rfl,d,F.su,H⟩
 rintro a w ⟨rfl,F,H⟩
 have d:=oJ D;refine xH (xG ?_);obtain⟨o2,d,O⟩:=xV d;refine qG (fun a w=>∃ (C:Bool),o2= .nx C∧Sk a 38 [(2,.bool C)]∧Sep [] B j w []) ?_ ?_
 ·
  refine oO (xA 1 F rfl fun a F=>oN F rfl rfl e fun a F=>oF (s':=1) sZ F rfl rfl e xL.f0 fun a p6 h9 F=>olI xN F rfl rfl H.sm h9 (fun a i4 F=>?_));obtain⟨J,c2,d⟩:=xB d;refine oK F rfl call94 rfl H (tM J c2 _ aA i4) fun a w H F=>xA 1 F rfl fun a F=>?_
  rcases zC J with t | t
  ·
   replace d:=zW t d;have F:=F.eb 30 rfl t;refine xA 1 F rfl fun a F=>oN F rfl rfl e fun a F=>oF (s':=1) cD F rfl rfl e xL.f1 fun a p7 P F=>olS kM F rfl rfl H.sm P fun a v3 Q F=>oL qP F rfl rfl Q fun a i5 F=>xA 3 F rfl fun a F=>xJ ?_;exact⟨(decide ((i.rels.length:Int)≤6)),(kQ d),F.su,H⟩
  replace d:=zV t d;have F:=F.eb 30 rfl t;refine xA 8 F rfl fun a F=>xJ ?_;exact⟨false,(kQ d),F.su,H⟩
 rintro a w ⟨C,rfl,F,H⟩
 have d:=oJ O;refine xH (xP (xR F rfl (xZ F rfl) ?_));obtain rfl:=oj d;exact⟨rfl,H.bl⟩
def jE (c:List Int) (d:Int):Option Bool:=
 kY (σ:=Unit) (
  qW (σ:=Unit) (ρ:=Bool) (fun (i:Nat) (e:Int) (s:Unit)=>
    match s with
    | _=>
    xY (ck (d - 1)) fun f=>
    xY (bE e 0 f) fun h=>
    if (!h) then
     some (.ret false)
    else
     some (.go ())) c 0 ()) fun _=>
 some true
theorem xAg {B:Nat→Prop} {h:List Int} {n:Int} (r:Bool) (d:jE h n=some r) {p:Value} (i:World) (M:∀ c,B c→c<i.heap.size) (y:Bo B i (Sl 1 xM) p h) (U:xS n):Calls Tryz.prog 60 #[p,xF n] i (bK (.bool r) i):=by
 unfold jE at d
 refine xW (L:=[(0,p),(1,xF n)]) func60 rfl rfl rfl (sc rfl (sc rfl sn)) (fun a F=>?_);have H:=Sep.start M;refine xX (xA 1 F rfl fun a F=>xJ (xG (xX (xA 1 F rfl fun a F=>xJ ?_))));obtain⟨D,d,A⟩:=xV d;refine qG (fun a w=>D= .nx ()∧Sk a 20 []∧Sep [] B i w []) ?_ ?_
 ·
  refine qM ?_;obtain⟨J,K,d⟩:=vY d;refine vT (fun g a w=>∃ (j:Nat) (f:List Int),(j≤h.length∧h.drop j=f)∧f.length=g∧qW J f j ()=some D∧Sk a 20 [(5,xF (j:Int)),(0,p),(1,xF n)]∧Sep [] B i w []) h.length ?_ ?_
  ·
   exact⟨0,h,⟨Nat.zero_le _,rfl⟩,rfl,d,F.su,H⟩
  intro W a w ⟨j,f,e,I,d,F,H⟩
  cases f with
  | nil=>
   replace d:=vX d;have N:=vZ e.1 e.2;have l1:=kW N;refine xG (xX (xA 2 F rfl fun a F=>oL xC F rfl rfl y fun a X F=>xA 1 F rfl fun a F=>xJ (aC F rfl l1 (vU ?_))));refine vV (vV (bC (xH ?_)));exact⟨(kQ d),F.sub sn,H⟩
  | cons Y f=>
   subst I;replace e:=qY e.2;have O:=zI e.2.1;obtain⟨V,d,C⟩:=vE d;rw[K] at d;have l1:=zT e.1;refine xG (xX (xA 2 F rfl fun a F=>oL xC F rfl rfl y fun a E F=>xA 1 F rfl fun a F=>xJ (aD F rfl l1 (xT ?_))));refine xH (xG ?_);have Z:=k64 (Nat.le_of_lt e.1) E;have P:=bG e.1 E;refine qM (xX (xA 2 F rfl fun a F=>oI xC xI F rfl rfl rfl y O fun a p1 Q F=>olI xN F rfl rfl H.sm Q fun a R F=>xA 1 F rfl fun a F=>?_));obtain⟨z1,G,d⟩:=xB d;refine gY F rfl rfl rfl G (fun a F=>?_);obtain⟨S,T,d⟩:=xB d;refine oK F rfl iW rfl H (cU S T _ aA R (show xS (0) by decide) (bD G)) fun a w H F=>xA 1 F rfl fun a F=>xJ (vK F rfl (fun t=>?_) (fun t=>?_))
   ·
    replace d:=zW t d;refine xX (xA 1 F rfl fun a F=>xJ (xP (zZ (qH (qH ?_)))));replace d:=bQ d C;refine zZ (qH ?_);replace d:=bR d A;refine qH (xR F rfl (xZ F rfl) ?_);obtain rfl:=oj d;exact⟨rfl,H.bl⟩
   replace d:=zV t d;refine xT (zG (xH (oO (xA 1 F rfl fun a F=>kO F rfl rfl rfl P fun a F=>xA 1 F rfl fun a F=>xJ ?_))));replace d:=aB d C;exact⟨_,Nat.lt_succ_self _,j+1,f,⟨e.1,e.2.2⟩,rfl,d,F.su,H⟩
 rintro a w ⟨rfl,F,H⟩
 have d:=oJ A;refine xH (xX (xA 1 F rfl fun a F=>xJ (xP (xR F rfl (xZ F rfl) ?_))));obtain rfl:=oj d;exact⟨rfl,H.bl⟩
def gQ (e:Template) (c:Instance):Option Bool:=
 kY (σ:=Bool) (
  xY (gL e) fun f=>
  if (!f) then  some (.nx true) else  xY (bE c.vars 1 10) fun h=>
   if (!h) then  some (.nx true) else  some (.nx (decide (24<(c.cons.length:Int))))) fun i=>
 if i then
  some false
 else
  kY (σ:=Unit) (
   qW (σ:=Unit) (ρ:=Bool) (fun (A:Nat) (d:Con) (s:Unit)=>
     match s with
     | _=>
     kY (σ:=Bool) (
      xY (ck ((e.rels.length:Int) - 1)) fun j=>
      xY (bE d.rel 0 j) fun n=>
      if (!n) then  some (.nx true) else  xY (ix e.rels d.rel) fun p=>
       if ((d.scope.length:Int) != p.arity) then  some (.nx true) else  xY (jE d.scope c.vars) fun t=>
        some (.nx (!t))) fun y=>
     if y then
      some (.ret false)
     else
      some (.go ())) c.cons 0 ()) fun _=>
  some true
theorem nZ {B:Nat→Prop} {Q:Template} {n:Instance} (r:Bool) (d:gQ Q n=some r) {y:Value} {A:Value} (i:World) (hN:∀ c,B c→c<i.heap.size) (I:Bo B i (Pt 2 xL) y Q) (e:Bo B i (Pt 2 xO) A n):Calls Tryz.prog 24 #[y,A] i (bK (.bool r) i):=by
 unfold gQ at d
 refine xW (L:=[(0,y),(1,A)]) func24 rfl rfl rfl (sc rfl (sc rfl sn)) (fun a F=>?_);have H:=Sep.start hN;refine xX (xA 1 F rfl fun a F=>xJ (xG (xG ?_)));obtain⟨o1,d,Y⟩:=xV d;refine qG (fun a w=>∃ (M:Bool),o1= .nx M∧Sk a 84 [(0,y),(1,A),(25,.bool M)]∧Sep [] B i w []) ?_ ?_
 ·
  refine oO (xA 1 F rfl fun a F=>?_);obtain⟨R,c1,d⟩:=xB d;refine oK F rfl call58 rfl H (yD R c1 _ aA (H.a I)) fun a w H F=>xA 2 F rfl fun a F=>?_
  rcases zC (!R) with C | C
  ·
   replace d:=zW C d;have F:=F.eb 10 rfl C;refine xA 11 F rfl fun a F=>?_;refine xA 4 F rfl fun a F=>xJ ?_;exact⟨true,(kQ d),F.su,H⟩
  replace d:=zV C d;have F:=F.eb 10 rfl C;refine xA 1 F rfl fun a F=>oN F rfl rfl e fun a F=>oF (s':=1) gP F rfl rfl e xO.f0 fun a b9 h1 F=>olI xN F rfl rfl H.sm h1 (fun a i1 F=>?_);obtain⟨S,c2,d⟩:=xB d;refine oK F rfl iW rfl H (cU S c2 _ aA i1 (show xS (1) by decide) (show xS (10) by decide)) fun a w H F=>xA 3 F rfl fun a F=>?_
  rcases zC (!S) with D | D
  ·
   replace d:=zW D d;have F:=F.eb 18 rfl D;refine xA 7 F rfl fun a F=>xJ ?_;exact⟨true,(kQ d),F.su,H⟩
  replace d:=zV D d;have F:=F.eb 18 rfl D;refine xA 1 F rfl fun a F=>oN F rfl rfl e fun a F=>oF (s':=1) bU F rfl rfl e xO.f1 fun a p1 h2 F=>olS vR F rfl rfl H.sm h2 fun a v2 h3 F=>oL oY F rfl rfl h3 fun a i2 F=>xA 2 F rfl fun a F=>xJ ?_;exact⟨(decide (24<(n.cons.length:Int))),(kQ d),F.su,H⟩
 rintro a w ⟨M,rfl,F,H⟩
 have d:=oJ Y;refine xH (vK F rfl (fun J=>?_) (fun J=>?_))
 ·
  replace d:=zW J d;refine xX (xA 1 F rfl fun a F=>xJ (xP (qH (xR F rfl (xZ F rfl) ?_))));obtain rfl:=oj d;exact⟨rfl,H.bl⟩
 replace d:=zV J d;refine xT (xH (xG (xX (xA 1 F rfl fun a F=>xJ ?_))));obtain⟨T,d,O⟩:=xV d;refine qG (fun a w=>T= .nx ()∧Sk a 84 []∧Sep [] B i w []) ?_ ?_
 ·
  refine qM ?_;obtain⟨Z,a0,d⟩:=vY d;refine vT (fun g a w=>∃ (p:Nat) (t:List Con),(p≤n.cons.length∧n.cons.drop p=t)∧t.length=g∧qW Z t p ()=some T∧Sk a 84 [(5,xF (p:Int)),(0,y),(1,A)]∧Sep [] B i w []) n.cons.length ?_ ?_
  ·
   exact⟨0,n.cons,⟨Nat.zero_le _,rfl⟩,rfl,d,F.su,H⟩
  intro g1 a w ⟨p,t,f,a1,d,F,H⟩
  cases t with
  | nil=>
   replace d:=vX d;have q1:=vZ f.1 f.2;have l1:=kW q1;refine xG (xX (xA 2 F rfl fun a F=>oN F rfl rfl e fun a F=>oF (s':=1) bU F rfl rfl e xO.f1 fun a p2 h4 F=>olS vR F rfl rfl H.sm h4 fun a v3 h5 F=>oL oY F rfl rfl h5 fun a i3 F=>xA 1 F rfl fun a F=>vP ?_));refine xH (aC F rfl l1 (vU (vV (vV (bC (xH ?_))))));exact⟨(kQ d),F.sub sn,H⟩
  | cons x2 t=>
   subst a1;replace f:=qY f.2;have y1:=zI f.2.1;obtain⟨ba,d,P⟩:=vE d;rw[a0] at d;have l1:=zT f.1;refine xG (xX (xA 2 F rfl fun a F=>oN F rfl rfl e fun a F=>oF (s':=1) bU F rfl rfl e xO.f1 fun a p3 h6 F=>olS vR F rfl rfl H.sm h6 fun a v4 h7 F=>oL oY F rfl rfl h7 fun a U F=>xA 1 F rfl fun a F=>vP ?_));refine xH (aD F rfl l1 (xT (xH (xG ?_))));have j1:=k64 (Nat.le_of_lt f.1) U;have m1:=bG f.1 U;refine qM (xX (xA 1 F rfl fun a F=>oN F rfl rfl e fun a F=>oF (s':=1) bU F rfl rfl e xO.f1 fun a p4 h8 F=>olS vR F rfl rfl H.sm h8 fun a v5 h9 F=>xA 1 F rfl fun a F=>oI oY zA F rfl rfl rfl h9 y1 fun a p5 j F=>xA 1 F rfl fun a F=>vP ?_));refine xH (xG ?_);obtain⟨o3,d,a2⟩:=xV d;refine qG (fun a w=>∃ (N:Bool),o3= .nx N∧Sk a 84 [(0,y),(1,A),(5,xF (p:Int)),(83,.bool N)]∧Sep [] B i w []) ?_ ?_
   ·
    refine xQa H (oM F rfl rfl fun a F=>qN F rfl rfl j fun a F=>qF (s':=1) tD F rfl rfl j qZ.f0 fun a p6 a3 F=>qlI xN F rfl rfl H.q a3 fun a i5 F=>oM F rfl rfl fun a F=>qN F rfl rfl I fun a F=>qF (s':=1) cD F rfl rfl I xL.f1 fun a p7 a4 F=>qlS kM F rfl rfl H.q a4 fun a v6 a5 F=>qL qP F rfl rfl a5 (fun a i6 F=>?_));obtain⟨z3,V,d⟩:=xB d;refine zH F rfl (fun w l=>nU F rfl rfl V) (fun a F=>?_);obtain⟨W,c4,d⟩:=xB d;refine dQ F rfl iW rfl (fun w w' h l=>l.through h) (fun w l=>cU W c4 w aA i5 (show xS (0) by decide) (bD V)) fun a F=>gU F rfl rfl fun a F=>oM F rfl rfl (fun a F=>?_)
    rcases zC (!W) with E | E
    ·
     replace d:=zW E d;have F:=F.eb 53 rfl E;refine oV F rfl rfl fun a F=>oV F rfl rfl fun a F=>oV F rfl rfl fun a F=>oV F rfl rfl fun a F=>oV F rfl rfl fun a F=>oV F rfl rfl fun a F=>oV F rfl rfl fun a F=>oV F rfl rfl fun a F=>oV F rfl rfl fun a F=>oV F rfl rfl fun a F=>oV F rfl rfl (fun a F=>?_);refine oV F rfl rfl fun a F=>oV F rfl rfl fun a F=>oV F rfl rfl fun a F=>oV F rfl rfl fun a F=>oV F rfl rfl fun a F=>oV F rfl rfl fun a F=>bH F rfl rfl rfl fun a F=>oM F rfl rfl fun a F=>oV F rfl rfl fun a F=>oV F rfl rfl fun a F=>oV F rfl rfl (fun a F=>?_);refine oV F rfl rfl fun a F=>oV F rfl rfl fun a F=>oV F rfl rfl fun a F=>oV F rfl rfl fun a F=>oV F rfl rfl fun a F=>oV F rfl rfl fun a F=>oV F rfl rfl fun a F=>bH F rfl rfl rfl fun a F=>aF fun w H=>xH ?_;exact⟨true,(kQ d),F.su,H⟩
    replace d:=zV E d;have F:=F.eb 53 rfl E;refine oM F rfl rfl fun a F=>qN F rfl rfl j fun a F=>qF (s':=1) gD F rfl rfl j qZ.f1 fun a p8 a6 F=>qlS qE F rfl rfl H.q a6 fun a v7 a7 F=>qL xC F rfl rfl a7 fun a i7 F=>oM F rfl rfl fun a F=>qN F rfl rfl I fun a F=>qF (s':=1) cD F rfl rfl I xL.f1 fun a p9 a8 F=>qlS kM F rfl rfl H.q a8 fun a v8 a9 F=>oM F rfl rfl fun a F=>qN F rfl rfl j (fun a F=>?_);refine qF (s':=1) tD F rfl rfl j qZ.f0 fun a bb aa F=>qlI xN F rfl rfl H.q aa (fun a i8 F=>?_);obtain⟨z5,c5,d⟩:=xB d;refine qI qP oE F rfl rfl rfl a9 c5 fun a bc ab F=>qF (s':=1) sS F rfl rfl ab vG.f0 fun a be ac F=>qlI xN F rfl rfl H.q ac fun a i9 F=>zH F rfl (fun w l=>uN F rfl rfl) fun a F=>cG F rfl rfl rfl fun a F=>oM F rfl rfl (fun a F=>?_)
    rcases zC ((x2.scope.length:Int) != z5.arity) with G | G
    ·
     replace d:=zW G d;have F:=F.eb 72 rfl G;refine oV F rfl rfl fun a F=>oV F rfl rfl fun a F=>oV F rfl rfl fun a F=>oV F rfl rfl fun a F=>oV F rfl rfl fun a F=>oV F rfl rfl fun a F=>oV F rfl rfl fun a F=>oV F rfl rfl fun a F=>oV F rfl rfl fun a F=>oV F rfl rfl fun a F=>bH F rfl rfl rfl (fun a F=>?_);refine aF fun w H=>xH ?_;exact⟨true,(kQ d),F.su,H⟩
    replace d:=zV G d;have F:=F.eb 72 rfl G;refine oM F rfl rfl fun a F=>qN F rfl rfl j fun a F=>qF (s':=1) gD F rfl rfl j qZ.f1 fun a bf ad F=>qlS qE F rfl rfl H.q ad fun a v9 ae F=>oM F rfl rfl fun a F=>qN F rfl rfl e fun a F=>qF (s':=1) gP F rfl rfl e xO.f0 fun a bg af F=>qlI xN F rfl rfl H.q af (fun a ag F=>?_);obtain⟨X,c6,d⟩:=xB d;refine dQ F rfl call60 rfl (fun w w' h l=>l.through h) (fun w l=>xAg X c6 w aA ((H.go l).a ae) ag) fun a F=>gU F rfl rfl fun a F=>cG F rfl rfl rfl fun a F=>aF fun w H=>xH ?_;exact⟨(!X),(kQ d),F.su,H⟩
   rintro a w ⟨N,rfl,F,H⟩
   have d:=oJ a2;refine xH (vK F rfl (fun K=>?_) (fun K=>?_))
   ·
    replace d:=zW K d;refine xX (xA 1 F rfl fun a F=>xJ (xP (zZ (qH (qH ?_)))));replace d:=bQ d P;refine zZ (qH ?_);replace d:=bR d O;refine qH (xR F rfl (xZ F rfl) ?_);obtain rfl:=oj d;exact⟨rfl,H.bl⟩
   replace d:=zV K d;refine xT (zG (xH (oO (xA 1 F rfl fun a F=>kO F rfl rfl rfl m1 fun a F=>xA 1 F rfl fun a F=>xJ ?_))));replace d:=aB d P;exact⟨_,Nat.lt_succ_self _,p+1,t,⟨f.1,f.2.2⟩,rfl,d,F.su,H⟩
 rintro a w ⟨rfl,F,H⟩
 have d:=oJ O;refine xH (xX (xA 1 F rfl fun a F=>xJ (xP (xR F rfl (xZ F rfl) ?_))));obtain rfl:=oj d;exact⟨rfl,H.bl⟩
def nF (d:Int):Option Rel:=
 kY (σ:=(List (List Int))) (
  eJ (σ:=(List (List Int))) (ρ:=Rel) (fun(c:Nat) (e:(List (List Int)))=>
   xY (ap e ([[(c:Int),(c:Int)]])) fun f=>
   some (.go f)) d.toNat 0 []) fun h=>
 some ((Rel.mk 2 h))
theorem xCc {B:Nat→Prop} {f:Int} (r:Rel) (d:nF f=some r)  (i:World) (P:∀ c,B c→c<i.heap.size) (D:xS f):Calls Tryz.prog 25 #[xF f] i (Gv (fun v w'=>∃ (E:Value),v= .agg #[xF r.arity,E]∧Sep [] B i w' [rl 1 (vS 1 xM) 46 E r.tuples]∧xS r.arity)):=by
 unfold nF at d
 refine xW (L:=[(0,xF f)]) func25 rfl rfl rfl (sc rfl sn) (fun a F=>?_);have H:=Sep.start P;refine xX (oA zL F rfl rfl H fun a w n H F=>zR (aX lY zL (fun w=>by simp [xI,kF];rfl) F rfl rfl rfl rfl rfl (oc rfl on) rfl rfl fun a F=>oA zL F rfl rfl H fun a w p H F=>gN (vs:=[xF 2,vH]) oE F rfl rfl rfl H (oc rfl (oc rfl on)) rfl rfl fun w H=>vP ?_));refine xH (xG (xX (xA 1 F rfl fun a F=>xJ ?_)));obtain⟨G,d,K⟩:=xV d;refine qG (fun a w=>∃ (C:List (List Int)) (h:Value),G= .nx C∧Sk a 20 [(2,vA n),(3,vA p)]∧Sep [] B i w [rl 1 (vS 1 xM) 46 h C,bx p [xF 2,h] 65,bx n [xF 0,vH] 65]) ?_ ?_
 ·
  refine qM ?_;obtain⟨M,N,d⟩:=gW d;refine vT (fun g a w=>∃ (e:Nat) (t:List (List Int)) (A:Value),e+g=f.toNat∧eJ M g e t=some G∧Sk a 20 [(4,xF (e:Int)),(0,xF f),(2,vA n),(3,vA p)]∧Sep [] B i w [rl 1 (vS 1 xM) 46 A t,bx p [xF 2,A] 65,bx n [xF 0,vH] 65]) f.toNat ?_ ?_
  ·
   exact⟨0,[],vH,(Nat.zero_add _),d,F.su,(H.nl 1 (vS 1 xM) 46)⟩
  intro I a w ⟨e,t,A,j,d,F,H⟩
  cases I with
  | zero=>
   replace d:=fJ d;have l1:=mF j;refine xG (xX (xA 3 F rfl fun a F=>xJ (aC F rfl l1 (vU (vV ?_)))));refine vV (bC (xH ?_));exact⟨t,A,(kQ d),F.su,H⟩
  | succ I=>
   obtain⟨V,d,O⟩:=fI d;rw[N] at d;have l1:=iX j;refine xG (xX (xA 3 F rfl fun a F=>xJ (aD F rfl l1 (xT (xH ?_)))));refine xG ?_;have J:=xDz j D;have Q:=pK j D;refine qM (oO (oQ fG F rfl rfl rfl fun a F=>oB zD F rfl rfl (H.b 1 rfl) rfl fun a F=>xA 2 F rfl fun a F=>oRI (xs:=[.tmp 13,.tmp 14]) (l:=[(e:Int),(e:Int)]) xC xI qQ rfl F rfl rfl rfl rfl rfl rfl (by simp only[List.forall_mem_cons,List.not_mem_nil,false_implies,implies_true,and_true];exact⟨J,J⟩) H (fun a w W H F=>?_)));have H:=H.os;refine gB (R:=(vS 1 xM)) (y:=[(e:Int),(e:Int)]) xK xU cC rfl rfl F rfl rfl H El.sl (fun a w X H F=>?_);obtain⟨S,T,d⟩:=xB d;refine oPL (sz:=1) (R:=(vS 1 xM)) (z:=(vH)) (bytes:=24) xK (by kernel_rfl) rfl rfl F rfl rfl rfl (H.s [1,0,2,3] rfl rfl) T fun a w U H F=>oQ fG F rfl rfl rfl fun a F=>oW kF F rfl rfl rfl (H.s [1,0,2] rfl rfl) ((H.s [1,0,2] rfl rfl).l 1 rfl).one rfl rfl fun w H=>vP (zG (xH (oO (xA 1 F rfl fun a F=>kO F rfl rfl rfl Q fun a F=>xA 1 F rfl fun a F=>vP ?_))));refine xH ?_;replace d:=aB d O;exact⟨_,Nat.lt_succ_self _,e+1,S,U,(by omega),d,F.su,(H.s [1,0,2] rfl rfl)⟩
 rintro a w ⟨C,h,rfl,F,H⟩
 have d:=oJ K;refine xH (xX (lT zF oE F rfl rfl (H.b 1 rfl) rfl rfl fun a F=>gN (vs:=[xF 2,h]) oE F rfl rfl rfl (H.s [2,0,1] rfl rfl) (oc rfl (oc ((H.s [2,0,1] rfl rfl).l 1 rfl).one on)) rfl rfl fun w H=>xJ (xP (xR F rfl (bN (arr:=#[xF 2,h]) F zF oE rfl (H.b 0 rfl)) ?_))));obtain rfl:=oj d;exact⟨_,rfl,h,rfl,(H.s [1] rfl rfl),(show xS (2) by decide)⟩
end Go.Proofs.YtfmnjkpddljdcaaGreatDoor
