import Derived.Test.YtncganhbpbehaaaGreatP1
import Derived.Test.YtncganhbpbehaaaGreatNK
import Derived.Test.YtncganhbpbehaaaGreatSE
namespace Go.Proofs.YtncganhbpbehaaaGreat
open Go.Proofs.Tryz
set_option maxHeartbeats 1000000
set_option linter.unusedVariables false
set_option linter.unusedSimpArgs false
set_option maxRecDepth 100000
open Go.RowKit
def dN (f:Template) (h:Instance) (i j:Int) (n:List Line) (p:List Int) (t:Bool) (c:List (List Int)):Option Int:=
 zR (σ:=Unit) (
  qT (σ:=Unit) (ρ:=Int) (fun (d:Nat) (e:(List Int)) (s:Unit)=>
    match s with
    | _=>
    if ((e.length:Int)==0) then
     some (.ret ((d:Int)))
    else
     some (.go ())) c 0 ()) fun _=>
 some ((-1))
theorem nO {B:Nat→Prop} {O:Template} {P:Instance} {p t:Int} {A:List Line} {C:List Int} {D:Bool} {x:List (List Int)} (r:Int) (d:dN O P p t A C D x=some r) {j:Nat} {E:Value} {G:Value} {h:Value} {i:Value} {I:Value} {J:List Nat} (f:World) (hN:∀ c,B c→c<f.heap.size) (X:Sep J B f f [bx j [E,G,xC p,xC t,h,i,.bool D] 148,rl 4 qY 95 h A,rl 1 xI 2 i C]) (a4:Bo B f (Pt 2 xH) E O) (a5:Bo B f (Pt 2 xK) G P) (a6:xS p) (a7:xS t) (M:Bo B f (Sl 1 (vQ 1 xI)) I x):Calls Tryz.prog 126 #[oO j,I] f (Gv (fun v w'=>v=xC r∧Sep J B f w' [bx j [E,G,xC p,xC t,h,i,.bool D] 148,rl 4 qY 95 h A,rl 1 xI 2 i C]∧xS r)):=by
 unfold dN at d
 refine xX (L:=[(0,oO j),(1,I)]) func126 rfl rfl rfl (sc rfl (sc rfl sn)) (fun a F=>?_);have H:=X;refine xV (xA 1 F rfl fun a F=>xJ (xF (xV (xA 1 F rfl fun a F=>xJ ?_))));obtain⟨S,d,Q⟩:=xM d;refine oH (fun a w=>S= .nx ()∧Sk a 19 [(0,oO j)]∧Sep J B f w [bx j [E,G,xC p,xC t,h,i,.bool D] 148,rl 4 qY 95 h A,rl 1 xI 2 i C]) ?_ ?_
 ·
  refine oJ ?_;obtain⟨U,V,d⟩:=qP d;refine qK (fun g a w=>∃ (y:Nat) (n:List (List Int)),(y≤x.length∧x.drop y=n)∧n.length=g∧qT U n y ()=some S∧Sk a 19 [(5,xC (y:Int)),(0,oO j),(1,I)]∧Sep J B f w [bx j [E,G,xC p,xC t,h,i,.bool D] 148,rl 4 qY 95 h A,rl 1 xI 2 i C]) x.length ?_ ?_
  ·
   exact⟨0,x,⟨Nat.zero_le _,rfl⟩,rfl,d,F.su,H⟩
  intro g1 a w ⟨y,n,e,W,d,F,H⟩
  cases n with
  | nil=>
   replace d:=qO d;have Y:=qQ e.1 e.2;have N:=vS Y;refine xF (xV (xA 2 F rfl fun a F=>oL underlying38 F rfl rfl M fun a i1 F=>xA 1 F rfl fun a F=>xJ (zD F rfl N (qJ ?_))));refine qM (qM (zQ (xG ?_)));exact⟨(zH d),F.su,H⟩
  | cons x2 n=>
   subst W;replace e:=oZ e.2;have Z:=qX e.2.1;obtain⟨a8,d,R⟩:=qG d;rw[V] at d;have N:=vE e.1;refine xF (xV (xA 2 F rfl fun a F=>oL underlying38 F rfl rfl M fun a T F=>xA 1 F rfl fun a F=>xJ (zC F rfl N (xN ?_))));refine xG (xF ?_);have j1:=gP (Nat.le_of_lt e.1) T;have m1:=zU e.1 T;refine oJ (xV (xA 2 F rfl fun a F=>oI underlying38 sizeOf41 F rfl rfl rfl M Z fun a a9 h1 F=>olS isAgg41 F rfl rfl H.sm h1 fun a v2 h2 F=>oL underlying41 F rfl rfl h2 fun a i3 F=>xA 1 F rfl fun a F=>xJ ?_));refine qV F rfl (fun K=>?_) (fun K=>?_)
   ·
    replace d:=vX K d;refine xV (xA 2 F rfl fun a F=>xJ (xR (vT (oQ (oQ ?_)))));replace d:=kD d R;refine vT (oQ ?_);replace d:=zZ d Q;refine oQ (xT F rfl (oE F rfl) ?_);obtain rfl:=oj d;exact⟨_,rfl,rfl,H,j1⟩
   replace d:=vW K d;refine xN (vH (xG (xY (xA 1 F rfl fun a F=>vP F rfl rfl rfl m1 fun a F=>xA 1 F rfl fun a F=>xJ ?_))));replace d:=vU d R;exact⟨_,Nat.lt_succ_self _,y+1,n,⟨e.1,e.2.2⟩,rfl,d,F.su,H⟩
 rintro a w ⟨rfl,F,H⟩
 have d:=xW Q;refine xG (xV (xA 1 F rfl fun a F=>xJ (xR (xT F rfl (oE F rfl) ?_))));obtain rfl:=oj d;exact⟨_,rfl,rfl,H,(show xS (-1) by decide)⟩
def cL (n:Template) (p:Instance) (t x:Int) (y:List Line) (A:List Int) (B:Bool) (d:List (List Int)):Option Int:=
 zR (σ:=Int) (
  qT (σ:=Int) (ρ:=Int) (fun (f:Nat) (e:(List Int)) (c:Int)=>
   zR (σ:=Bool) (
    if (decide (1<(e.length:Int))) then  if (decide (c<0)) then  some (.nx true) else  xZ (ix d c) fun h=>
      some (.nx (decide ((e.length:Int)<(h.length:Int)))) else  some (.nx false)) fun i=>
   if i then
    some (.go (f:Int))
   else
    some (.go c)) d 0 (-1)) fun j=>
 some j
theorem pE {B:Nat→Prop} {T:Template} {U:Instance} {x y:Int} {A:List Line} {C:List Int} {D:Bool} {I:List (List Int)} (r:Int) (d:cL T U x y A C D I=some r) {j:Nat} {E:Value} {G:Value} {h:Value} {i:Value} {M:Value} {N:List Nat} (f:World) (hN:∀ c,B c→c<f.heap.size) (S0:Sep N B f f [bx j [E,G,xC x,xC y,h,i,.bool D] 148,rl 4 qY 95 h A,rl 1 xI 2 i C]) (ak:Bo B f (Pt 2 xH) E T) (al:Bo B f (Pt 2 xK) G U) (am:xS x) (an:xS y) (O:Bo B f (Sl 1 (vQ 1 xI)) M I):Calls Tryz.prog 127 #[oO j,M] f (Gv (fun v w'=>v=xC r∧Sep N B f w' [bx j [E,G,xC x,xC y,h,i,.bool D] 148,rl 4 qY 95 h A,rl 1 xI 2 i C]∧xS r)):=by
 unfold cL at d
 refine xX (L:=[(0,oO j),(1,M)]) func127 rfl rfl rfl (sc rfl (sc rfl sn)) (fun a F=>?_);have H:=S0;refine xV (xA 1 F rfl fun a F=>vG (xA 1 F rfl fun a F=>xJ (xF ?_)));refine xV (xA 1 F rfl fun a F=>xJ ?_);obtain⟨W,d,a2⟩:=xM d;refine oH (fun a w=>∃ (P:Int),W= .nx P∧Sk a 38 [(0,oO j),(5,xC P)]∧Sep N B f w [bx j [E,G,xC x,xC y,h,i,.bool D] 148,rl 4 qY 95 h A,rl 1 xI 2 i C]∧xS P) ?_ ?_
 ·
  refine oJ ?_;obtain⟨a3,a4,d⟩:=qP d;refine qK (fun g a w=>∃ (n:Nat) (t:List (List Int)) (p:Int),(n≤I.length∧I.drop n=t)∧t.length=g∧qT a3 t n p=some W∧Sk a 38 [(6,xC (n:Int)),(0,oO j),(1,M),(5,xC p)]∧Sep N B f w [bx j [E,G,xC x,xC y,h,i,.bool D] 148,rl 4 qY 95 h A,rl 1 xI 2 i C]∧xS p) I.length ?_ ?_
  ·
   exact⟨0,I,(-1),⟨Nat.zero_le _,rfl⟩,rfl,d,F.su,H,(show xS (-1) by decide)⟩
  intro g1 a w ⟨n,t,p,e,a5,d,F,H,X⟩
  cases t with
  | nil=>
   replace d:=qO d;have q1:=qQ e.1 e.2;have R:=vS q1;refine xF (xV (xA 2 F rfl fun a F=>oL underlying38 F rfl rfl O fun a i2 F=>xA 1 F rfl fun a F=>xJ (zD F rfl R (qJ ?_))));refine qM (qM (zQ (xG ?_)));exact⟨p,(zH d),F.su,H,X⟩
  | cons Y t=>
   subst a5;replace e:=oZ e.2;have Z:=qX e.2.1;obtain⟨ao,d,V⟩:=qG d;rw[a4] at d;have R:=vE e.1;refine xF (xV (xA 2 F rfl fun a F=>oL underlying38 F rfl rfl O fun a i3 F=>xA 1 F rfl fun a F=>xJ (zC F rfl R (xN ?_))));refine xG (xF ?_);have j1:=gP (Nat.le_of_lt e.1) i3;have m1:=zU e.1 i3;refine oJ (xF ?_);obtain⟨o2,d,a6⟩:=xM d;refine oH (fun a w=>∃ (S:Bool),o2= .nx S∧Sk a 38 [(0,oO j),(1,M),(5,xC p),(6,xC (n:Int)),(35,.bool S)]∧Sep N B f w [bx j [E,G,xC x,xC y,h,i,.bool D] 148,rl 4 qY 95 h A,rl 1 xI 2 i C]) ?_ ?_
   ·
    refine xQ H (by kernel_rfl) (by kernel_rfl) (xP F rfl (fun w l=>xL F rfl) fun a F=>xP F rfl (fun w l=>xL F rfl) fun a F=>qI underlying38 sizeOf41 F rfl rfl rfl O Z fun a p1 h1 F=>qlS isAgg41 F rfl rfl H.q h1 fun a v2 h2 F=>qL underlying41 F rfl rfl h2 fun a i4 F=>xP F rfl (fun w l=>wZ F rfl rfl) fun a F=>xP F rfl (fun w l=>xL F rfl) (fun a F=>?_))
    rcases vR (decide (1<(Y.length:Int))) with J | J
    ·
     replace d:=vX J d;have F:=F.eb 19 rfl J;refine xP F rfl (fun w l=>xL F rfl) fun a F=>xP F rfl (fun w l=>sB F rfl rfl) fun a F=>xP F rfl (fun w l=>xL F rfl) (fun a F=>?_)
     rcases vR (decide (p<0)) with K | K
     ·
      replace d:=vX K d;have F:=F.eb 22 rfl K;refine qR F rfl rfl fun a F=>qR F rfl rfl fun a F=>qR F rfl rfl fun a F=>qR F rfl rfl fun a F=>qR F rfl rfl fun a F=>qR F rfl rfl fun a F=>qR F rfl rfl fun a F=>qR F rfl rfl fun a F=>qR F rfl rfl fun a F=>qR F rfl rfl fun a F=>qR F rfl rfl (fun a F=>?_);refine xP F rfl (fun w l=>cD F rfl rfl) fun a F=>xP F rfl (fun w l=>cD F rfl rfl) fun a F=>kZ fun w H=>xG ?_;exact⟨true,(zH d),F.su,H⟩
     replace d:=vW K d;have F:=F.eb 22 rfl K;refine xP F rfl (fun w l=>xL F rfl) fun a F=>xP F rfl (fun w l=>xL F rfl) fun a F=>qI underlying38 sizeOf41 F rfl rfl rfl O Z fun a p2 h3 F=>qlS isAgg41 F rfl rfl H.q h3 fun a v3 h4 F=>qL underlying41 F rfl rfl h4 fun a i5 F=>xP F rfl (fun w l=>xL F rfl) fun a F=>xP F rfl (fun w l=>xL F rfl) (fun a F=>?_);obtain⟨z1,c1,d⟩:=xB d;refine qI underlying38 sizeOf41 F rfl rfl rfl O c1 fun a p3 h5 F=>qlS isAgg41 F rfl rfl H.q h5 fun a v4 h6 F=>qL underlying41 F rfl rfl h6 fun a i6 F=>xP F rfl (fun w l=>sB F rfl rfl) fun a F=>xP F rfl (fun w l=>cG F rfl rfl) fun a F=>xP F rfl (fun w l=>cD F rfl rfl) fun a F=>kZ fun w H=>xG ?_;exact⟨(decide ((Y.length:Int)<(z1.length:Int))),(zH d),F.su,H⟩
    replace d:=vW J d;have F:=F.eb 19 rfl J;refine qR F rfl rfl fun a F=>qR F rfl rfl fun a F=>qR F rfl rfl fun a F=>qR F rfl rfl fun a F=>qR F rfl rfl fun a F=>qR F rfl rfl fun a F=>qR F rfl rfl fun a F=>qR F rfl rfl fun a F=>qR F rfl rfl fun a F=>qR F rfl rfl fun a F=>qR F rfl rfl (fun a F=>?_);refine qR F rfl rfl fun a F=>qR F rfl rfl fun a F=>qR F rfl rfl fun a F=>qR F rfl rfl fun a F=>xP F rfl (fun w l=>cG F rfl rfl) fun a F=>kZ fun w H=>xG ?_;exact⟨false,(zH d),F.su,H⟩
   rintro a w ⟨S,rfl,F,H⟩
   have d:=xW a6;refine xG (qV F rfl (fun Q=>?_) (fun Q=>?_))
   ·
    replace d:=vX Q d;refine xY (xA 2 F rfl fun a F=>qU (vH (xG (xY (xA 1 F rfl fun a F=>vP F rfl rfl rfl m1 fun a F=>xA 1 F rfl fun a F=>qU ?_)))));refine xG ?_;replace d:=vU d V;exact⟨_,Nat.lt_succ_self _,n+1,t,(n:Int),⟨e.1,e.2.2⟩,rfl,d,F.su,H,j1⟩
   replace d:=vW Q d;refine xN (vH (xG (xY (xA 1 F rfl fun a F=>vP F rfl rfl rfl m1 fun a F=>xA 1 F rfl fun a F=>xJ ?_))));replace d:=vU d V;exact⟨_,Nat.lt_succ_self _,n+1,t,p,⟨e.1,e.2.2⟩,rfl,d,F.su,H,X⟩
 rintro a w ⟨P,rfl,F,H,i7⟩
 have d:=xW a2;refine xG (xV (xA 2 F rfl fun a F=>xJ (xR (xT F rfl (oE F rfl) ?_))));obtain rfl:=oj d;exact⟨_,rfl,rfl,H,i7⟩
def gA (c:List (List Int)):Option (List (List Int)):=
 zR (σ:=(List (List Int))) (
  qT (σ:=(List (List Int))) (ρ:=(List (List Int))) (fun (j:Nat) (d:(List Int)) (e:(List (List Int)))=>
   xZ (cV d) fun f=>
   xZ (ap e ([f])) fun h=>
   some (.go h)) c 0 []) fun i=>
 some i
theorem uB {B:Nat→Prop} {h:List (List Int)} (r:(List (List Int))) (d:gA h=some r) {n:Value} (i:World) (T:∀ c,B c→c<i.heap.size) (A:Bo B i (Sl 1 (vQ 1 xI)) n h):Calls Tryz.prog 128 #[n] i (Gv (fun v w'=>∃ (E:Value),v=E∧Sep [] B i w' [rl 1 (vQ 1 xI) 41 E r])):=by
 unfold gA at d
 refine xX (L:=[(0,n)]) func128 rfl rfl rfl (sc rfl sn) (fun a F=>?_);have H:=Sep.start T;refine xV (xA 1 F rfl fun a F=>vG (oR0 (R:=(vQ 1 xI)) underlying38 sizeOf41 F rfl H fun a w U H F=>xA 1 F rfl fun a F=>xJ ?_));refine xF (xV (xA 1 F rfl fun a F=>xJ ?_));obtain⟨G,d,K⟩:=xM d;refine oH (fun a w=>∃ (C:List (List Int)) (p:Value),G= .nx C∧Sk a 21 [(3,p)]∧Sep [] B i w [rl 1 (vQ 1 xI) 41 p C]) ?_ ?_
 ·
  refine oJ ?_;obtain⟨M,N,d⟩:=qP d;refine qK (fun g a w=>∃ (j:Nat) (f t:List (List Int)) (x:Value),(j≤h.length∧h.drop j=f)∧f.length=g∧qT M f j t=some G∧Sk a 21 [(4,xC (j:Int)),(0,n),(3,x)]∧Sep [] B i w [rl 1 (vQ 1 xI) 41 x t]) h.length ?_ ?_
  ·
   exact⟨0,h,[],U,⟨Nat.zero_le _,rfl⟩,rfl,d,F.su,H⟩
  intro g1 a w ⟨j,f,t,x,e,O,d,F,H⟩
  cases f with
  | nil=>
   replace d:=qO d;have V:=qQ e.1 e.2;have D:=vS V;refine xF (xV (xA 2 F rfl fun a F=>oL underlying38 F rfl rfl A fun a i1 F=>xA 1 F rfl fun a F=>xJ (zD F rfl D (qJ ?_))));refine qM (qM (zQ (xG ?_)));exact⟨t,x,(zH d),F.su,H⟩
  | cons x1 f=>
   subst O;replace e:=oZ e.2;have W:=qX e.2.1;obtain⟨a4,d,P⟩:=qG d;rw[N] at d;have D:=vE e.1;refine xF (xV (xA 2 F rfl fun a F=>oL underlying38 F rfl rfl A fun a I F=>xA 1 F rfl fun a F=>xJ (zC F rfl D (xN ?_))));refine xG (xF ?_);have j1:=gP (Nat.le_of_lt e.1) I;have X:=zU e.1 I;refine oJ (xY (xA 3 F rfl fun a F=>oI underlying38 sizeOf41 F rfl rfl rfl A W fun a p1 Y F=>olS isAgg41 F rfl rfl H.sm Y (fun a v4 Z F=>?_)));obtain⟨J,c1,d⟩:=xB d;refine oG F rfl call59 rfl (eD J c1 _ aA (H.a Z)) (fun a vv w ⟨v5,a5,S⟩ F=>?_);subst vv;have H:=H.r1 S n0;have H:=H.os;refine eZ (R:=(vQ 1 xI)) (y:=J) underlying38 sizeOf41 zeroValue41 rfl rfl F rfl rfl H El.sl (fun a w v6 H F=>?_);obtain⟨z2,Q,d⟩:=xB d;refine oPL (sz:=1) (R:=(vQ 1 xI)) (z:=(qD)) (bytes:=24) underlying38 (by kernel_rfl) rfl rfl F rfl rfl rfl (H.s [1,0] rfl rfl) Q fun a w v7 H F=>xA 1 F rfl fun a F=>qU (vH (xG (xY (xA 1 F rfl fun a F=>vP F rfl rfl rfl X fun a F=>xA 1 F rfl fun a F=>xJ ?_))));replace d:=vU d P;exact⟨_,Nat.lt_succ_self _,j+1,f,z2,v7,⟨e.1,e.2.2⟩,rfl,d,F.su,H⟩
 rintro a w ⟨C,p,rfl,F,H⟩
 have d:=xW K;refine xG (xV (xA 2 F rfl fun a F=>xJ (xR (xT F rfl (oE F rfl) ?_))));obtain rfl:=oj d;exact⟨_,rfl,p,rfl,H⟩
def kN:Nat→Template→Instance→Int→Int→(List Line)→(List Int)→Bool→(List (List Int))→Option (Bool×Int×(List Line)×(List Int)×Bool×(List (List Int)))
  | 0,_,_,_,_,_,_,_,_=>none
  | N+1,n,p,t,G,H,I,J,S=>
  zR (σ:=(List (List Int))×Int×(List Line)×(List Int)×Bool) (
   fA (σ:=(List (List Int))×Int×(List Line)×(List Int)×Bool) (ρ:=Bool×Int×(List Line)×(List Int)×Bool×(List (List Int))) (fun(s:(List (List Int))×Int×(List Line)×(List Int)×Bool)=>
     match s with
     | (C,y,D,e,h)=>
     if (y==t) then
      some (.ret (true,y,D,e,true,C))
     else
      xZ (ck (y+1)) fun i=>
      xZ (aH N n p C true) fun c=>
      zR (σ:=(List Line)) (
       qT (σ:=(List Line)) (ρ:=(Ctl ((List (List Int))×Int×(List Line)×(List Int)×Bool) (Bool×Int×(List Line)×(List Int)×Bool×(List (List Int))))) (fun (k1:Nat) (A:ArcStep) (T:(List Line))=>
        xZ (ap T ([(Line.mk 2 A.var A.value A.con)])) fun U=>
        some (.go U)) c.1 0 D) fun j=>
      xZ (dN n p t i j e h c.2) fun E=>
      if (decide (0≤E)) then
       xZ (ap j ([(Line.mk 3 E 0 0)])) fun V=>
       some (.ret (false,i,V,e,h,c.2))
      else
       xZ (cL n p t i j e h c.2) fun f=>
       if (decide (f<0)) then
        zR (σ:=(List Int)) (
         qT (σ:=(List Int)) (ρ:=(Ctl ((List (List Int))×Int×(List Line)×(List Int)×Bool) (Bool×Int×(List Line)×(List Int)×Bool×(List (List Int))))) (fun (k2:Nat) (W X:(List Int))=>
          xZ (ix W 0) fun Y=>
          xZ (ap X ([Y])) fun Z=>
          some (.go Z)) c.2 0 e) fun s9=>
        some (.ret (true,i,j,s9,h,c.2))
       else
        xZ (ix c.2 f) fun F=>
        xZ (ix F 0) fun x=>
        xZ (ap j ([(Line.mk 1 f x 0)])) fun K=>
        xZ (gA c.2) fun B=>
        xZ (ix B f) fun a1=>
        xZ (kN N n p t i K e h (B.set (f).toNat ([x]))) fun d=>
        if d.1 then
         some (.ret (true,d.2.1,d.2.2.1,d.2.2.2.1,d.2.2.2.2.1,c.2))
        else
         xZ (aN F x) fun L=>
         some (.go ((c.2.set (f).toNat L),d.2.1,d.2.2.1,d.2.2.2.1,d.2.2.2.2.1))) N (S,G,H,I,J)) fun(M,O,P,Q,R)=>
  some (false,O,P,Q,R,M)
theorem nA:∀ (N:Nat) {B:Nat→Prop} {am:Template} {an:Instance} {i a4:Int} {ad:List Line} {ae:List Int} {af:Bool} {x1:List (List Int)} (r:Bool×Int×(List Line)×(List Int)×Bool×(List (List Int))) (d:kN N am an i a4 ad ae af x1=some r) {f:Nat} {n:Value} {p:Value} {ao:Value} {aq:Value} {j:Value} {W:List Nat} (E:World) (hN:∀ c,B c→c<E.heap.size) (S0:Sep W B E E [bx f [n,p,xC i,xC a4,ao,aq,.bool af] 148,rl 4 qY 95 ao ad,rl 1 xI 2 aq ae,rw N0 1 (vQ 1 xI) 41 j x1]) (ab:Bo B E (Pt 2 xH) n am) (ac:Bo B E (Pt 2 xK) p an) (al:xS i) (br:xS a4),Calls Tryz.prog 95 #[oO f,j] E (Gv (fun v w'=>∃ (bt bu:Value),v= .bool r.1∧Sep W B E w' [bx f [n,p,xC i,xC r.2.1,bt,bu,.bool r.2.2.2.2.1] 148,rl 4 qY 95 bt r.2.2.1,rl 1 xI 2 bu r.2.2.2.1,rw N0 1 (vQ 1 xI) 41 j r.2.2.2.2.2]∧xS r.2.1)):=by
  intro N
  induction N with
  | zero=>intro B am an i a4 ad ae af x1 r d;unfold kN at d;cases d
  | succ N ih=>
  intro B am an i a4 ad ae af x1 r d f n p ao aq j W E hN S0 ab ac al br;rw[kN] at d;refine xX (L:=[(0,oO f),(1,j)]) func95 rfl rfl rfl (sc rfl (sc rfl sn)) (fun a F=>?_);have H:=S0;refine xV (xA 1 F rfl fun a F=>xJ ?_);obtain⟨o1,d,ag⟩:=xM d;refine oH (fun a w=>∃ (s1:List (List Int)) (s2:Int) (s3:List Line) (v2:Value) (s4:List Int) (v3:Value) (s5:Bool),o1= .nx (s1,s2,s3,s4,s5)∧Sk a 151 [(0,oO f),(1,j),(4,.bool false)]∧Sep W B E w [bx f [n,p,xC i,xC s2,v2,v3,.bool s5] 148,rl 4 qY 95 v2 s3,rl 1 xI 2 v3 s4,rw N0 1 (vQ 1 xI) 41 j s1]∧xS s2) ?_ ?_
  ·
   refine oJ ?_;obtain⟨ci,cj,d⟩:=bJ d;refine qK (fun g a w=>∃ (s6:List (List Int)) (s7:Int) (s8:List Line) (X:Value) (D:List Int) (h:Value) (C:Bool),fA ci g (s6,s7,s8,D,C)=some o1∧Sk a 151 [(0,oO f),(1,j)]∧Sep W B E w [bx f [n,p,xC i,xC s7,X,h,.bool C] 148,rl 4 qY 95 X s8,rl 1 xI 2 h D,rw N0 1 (vQ 1 xI) 41 j s6]∧xS s7) N ?_ ?_
   ·
    exact⟨x1,a4,ad,ao,ae,aq,af,d,F.su,H,br⟩
   intro g1 a w ⟨s6,s7,s8,X,D,h,C,d,F,H,i1⟩;obtain⟨f4,t1,f5,d,ah⟩:=kR d;rw[cj] at d;refine oJ (xF (xF (xQ H (by kernel_rfl) (by kernel_rfl) (xP F rfl (fun w l=>xL F rfl) fun a F=>xP F rfl (fun w l=>vM F rfl) fun a F=>xP F rfl (fun w l=>oM xBz F rfl rfl) fun a F=>qB isAgg2 F rfl rfl (H.qb 0 rfl) rfl fun a F=>xP F rfl (fun w l=>xL F rfl) fun a F=>xP F rfl (fun w l=>vM F rfl) fun a F=>xP F rfl (fun w l=>oM xMr F rfl rfl) (fun a F=>?_)))));refine qB isAgg2 F rfl rfl (H.qb 0 rfl) rfl fun a F=>xP F rfl (fun w l=>tN F rfl rfl) fun a F=>kZ fun w H=>xG (qV F rfl (fun b5=>?_) (fun b5=>?_))
   ·
    replace d:=vX b5 d;refine xV (xA 1 F rfl fun a F=>vO F rfl rfl fun a F=>oD xHn F rfl rfl rfl fun a F=>oW sizeOf4 F rfl rfl rfl H rfl rfl rfl fun w H=>vG (xA 1 F rfl fun a F=>?_));refine xJ (xR (oQ (vT (oQ ?_))));replace d:=kD d ah;refine vT (oQ ?_);replace d:=zZ d ag;refine xT F rfl (oE F rfl) ?_;obtain rfl:=oj d;exact⟨_,rfl,X,h,rfl,H,i1⟩
   replace d:=vW b5 d;refine xN (xG (xV (xA 1 F rfl fun a F=>vO F rfl rfl fun a F=>oD xBz F rfl rfl rfl fun a F=>oB isAgg2 F rfl rfl (H.b 0 rfl) rfl (fun a F=>?_))));obtain⟨I,c1,d⟩:=xB d;refine cX F rfl rfl rfl c1 fun a F=>vO F rfl rfl fun a F=>oD xBz F rfl rfl rfl fun a F=>oW sizeOf2 F rfl rfl rfl H rfl rfl rfl fun w H=>xJ (xF ?_);obtain⟨A,c2,d⟩:=xB d;obtain⟨w1,rfl⟩:∃ x,x=w:=⟨_,rfl⟩;have f6:=H.sm;obtain⟨X1,N1,g2,e1,H,cl,f7⟩:=H.fza;have K1:=g2.bk;refine xD H (by kernel_rfl) fun w H=>qW 0 rfl (by kernel_rfl) (xO F rfl (fun w l=>xL F rfl) fun a F=>qE 1 rfl (by kernel_rfl) (xO F rfl (fun w l=>vM F rfl) fun a F=>qE 2 rfl (by kernel_rfl) (xO F rfl (fun w l=>oM xNb F rfl rfl) fun a F=>qE 3 rfl (by kernel_rfl) (vB isAgg63 F rfl rfl (K1.v H.sm) rfl fun a F=>qW 4 rfl (by kernel_rfl) (xO F rfl (fun w l=>xL F rfl) (fun a F=>?_))))));refine qE 5 rfl (by kernel_rfl) (xO F rfl (fun w l=>vM F rfl) fun a F=>qE 6 rfl (by kernel_rfl) (xO F rfl (fun w l=>oM xMd F rfl rfl) fun a F=>qE 7 rfl (by kernel_rfl) (vB isAgg64 F rfl rfl (K1.v H.sm) rfl fun a F=>qW 8 rfl (by kernel_rfl) (xO F rfl (fun w l=>xL F rfl) fun a F=>xE H 9 rfl (by kernel_rfl) ?_))));obtain⟨X2,K2,cm⟩:=Sep.lend (K:=[rw N0 1 (vQ 1 xI) 41 j s6]) (L:=[rl 4 qY 95 X s8,rl 1 xI 2 h D]) (H.s [2,0,1] rfl rfl);refine oG F rfl call125 rfl (rV A c2 _ H.hN K2 (H.u (e1 ab)) (H.u (e1 ac))) (fun a J w ⟨v6,f8,S⟩ F=>?_);subst J;have H:Sep X1 N1 w1 w [rl 3 qH 173 v6 A.1,rw N0 1 (vQ 1 xI) 41 j A.2,rl 4 qY 95 X s8,rl 1 xI 2 h D]:=cm S;refine xJ ⟨⟨_,H⟩,?_⟩;refine qW 10 rfl (by kernel_rfl) (xO F rfl (fun w l=>vK F rfl) fun a F=>vZ (by kernel_rfl) (xG (xF (xV (xA 1 F rfl fun a F=>xJ ?_)))));have H:=(cl.1 H (Ns.all ⟨n0,⟨n0,⟨n0,⟨n0,trivial⟩⟩⟩⟩));obtain⟨o2,d,cn⟩:=xM d;refine oH (fun a w=>∃ (M:List Line) (t:Value),o2= .nx M∧Sk a 151 [(0,oO f),(1,j)]∧Sep W B E w [bx f [n,p,xC i,xC I,t,h,.bool C] 148,rw N0 1 (vQ 1 xI) 41 j A.2,rl 4 qY 95 t M,rl 1 xI 2 h D]) ?_ ?_
   ·
    refine oJ ?_;obtain⟨co,cp,d⟩:=qP d;refine qK (fun g a w=>∃ (Y:Nat) (Z:List ArcStep) (ai:List Line) (v8:Value),(Y≤A.1.length∧A.1.drop Y=Z)∧Z.length=g∧qT co Z Y ai=some o2∧Sk a 151 [(6,xC (Y:Int)),(0,oO f),(1,j),(5,v6)]∧Sep W B E w [bx f [n,p,xC i,xC I,v8,h,.bool C] 148,rl 3 qH 173 v6 A.1,rw N0 1 (vQ 1 xI) 41 j A.2,rl 4 qY 95 v8 ai,rl 1 xI 2 h D]) A.1.length ?_ ?_
    ·
     exact⟨0,A.1,s8,X,⟨Nat.zero_le _,rfl⟩,rfl,d,F.su,H⟩
    intro g3 a w ⟨Y,Z,ai,v8,O,cq,d,F,H⟩
    cases Z with
    | nil=>
     replace d:=qO d;have q1:=qQ O.1 O.2;have l1:=vS q1;refine xF (xV (xA 2 F rfl fun a F=>oL underlying170 F rfl rfl (H.l 1 rfl) fun a i2 F=>xA 1 F rfl fun a F=>xJ (zD F rfl l1 (qJ ?_))));refine qM (qM (zQ (xG ?_)));exact⟨ai,v8,(zH d),F.su,(H.s [0,2,3,4] rfl rfl)⟩
    | cons T Z=>
     subst cq;replace O:=oZ O.2;have y1:=qX O.2.1;obtain⟨f9,d,cr⟩:=qG d;rw[cp] at d;have l1:=vE O.1;refine xF (xV (xA 2 F rfl fun a F=>oL underlying170 F rfl rfl (H.l 1 rfl) fun a i3 F=>xA 1 F rfl fun a F=>xJ (zC F rfl l1 (xN ?_))));refine xG (xF ?_);have j1:=gP (Nat.le_of_lt O.1) i3;have m1:=zU O.1 i3;refine oJ ?_;obtain⟨z3,c3,d⟩:=xB d;obtain⟨w2,rfl⟩:∃ x,x=w:=⟨_,rfl⟩;have fa:=H.sm;obtain⟨X3,N2,g4,e2,H,cs,fb⟩:=(H.s [1,0,2,3,4] rfl rfl).fza;have h1:=g4.ld;refine xD H (by kernel_rfl) fun w H=>dp (fun G=>∀ (v9:Value) (a:Act) (w:World),Sk a 151 [(0,oO f),(1,j),(5,v6),(6,xC (Y:Int)),(47,oO f),(51,v8),(68,v9)]→Sep X3 N2 w2 w [rl 4 qY 95 v9 ([(Line.mk 2 T.var T.value T.con)]),bx f [n,p,xC i,xC I,v8,h,.bool C] 148,rw N0 1 (vQ 1 xI) 41 j A.2,rl 4 qY 95 v8 ai,rl 1 xI 2 h D]→∀ ls,ls = #[true,true,true,true,true,true,true,true,true,true,true,true,true,true,true,true,true,true,true,true,true,true,false,false,false,false]→G 4 ls a w) ?_ (fun H1=>?_)
     ·
      intro v9 a w F H ls b6;subst b6;refine xE H 22 rfl (by kernel_rfl) (oPL (sz:=4) (R:=qY) (z:=(.agg #[xC 0,xC 0,xC 0,xC 0])) (bytes:=32) underlying91 (by kernel_rfl) rfl rfl F rfl rfl rfl (H.s [3,0,1,2,4] rfl rfl) c3 fun a w ct H F=>xJ ⟨⟨_,H⟩,?_⟩);refine qE 23 rfl (by kernel_rfl) (xO F rfl (fun w l=>vM F rfl) fun a F=>qE 24 rfl (by kernel_rfl) (xO F rfl (fun w l=>oM rH F rfl rfl) fun a F=>xE H 25 rfl (by kernel_rfl) (oW sizeOf91 F rfl rfl rfl (H.s [1,0,2,3] rfl rfl) ((H.s [1,0,2,3] rfl rfl).l 1 rfl).one rfl rfl fun w H=>xJ ⟨⟨_,H⟩,?_⟩)));refine vZ (by kernel_rfl) (vH (xG (xY (xA 1 F rfl fun a F=>vP F rfl rfl rfl m1 fun a F=>xA 1 F rfl fun a F=>xJ ?_))));replace d:=vU d cr;exact⟨_,Nat.lt_succ_self _,Y+1,Z,z3,ct,⟨O.1,O.2.2⟩,rfl,d,F.su,((cs.1 H (Ns.all ⟨n0,⟨n0,⟨n0,⟨n0,trivial⟩⟩⟩⟩)).s [1,0,3,2,4] rfl rfl)⟩
     refine qW 0 rfl (by kernel_rfl) (xO F rfl (fun w l=>xL F rfl) fun a F=>qW 1 rfl (by kernel_rfl) (xO F rfl (fun w l=>xL F rfl) fun a F=>qE 2 rfl (by kernel_rfl) (xO F rfl (fun w l=>vM F rfl) fun a F=>qE 3 rfl (by kernel_rfl) (xO F rfl (fun w l=>oM rH F rfl rfl) fun a F=>qW 5 rfl (by kernel_rfl) (xO F rfl (fun w l=>xL F rfl) fun a F=>qW 6 rfl (by kernel_rfl) ?_)))));refine xO F rfl (fun w l=>xL F rfl) fun a F=>qE 7 rfl (by kernel_rfl) (vI underlying170 sizeOf173 F rfl rfl rfl h1 y1 fun a p1 h2 F=>qE 8 rfl (by kernel_rfl) (vF (s':=1) xGx F rfl rfl h2 qH.f0 fun a p2 h3 F=>qE 9 rfl (by kernel_rfl) (vlI isAgg2 F rfl rfl H.v h3 fun a i4 F=>qW 10 rfl (by kernel_rfl) (xO F rfl (fun w l=>xL F rfl) fun a F=>qW 11 rfl (by kernel_rfl) (xO F rfl (fun w l=>xL F rfl) (fun a F=>?_))))));refine qE 12 rfl (by kernel_rfl) (vI underlying170 sizeOf173 F rfl rfl rfl h1 y1 fun a p3 h4 F=>qE 13 rfl (by kernel_rfl) (vF (s':=1) xHk F rfl rfl h4 qH.f1 fun a p4 h5 F=>qE 14 rfl (by kernel_rfl) (vlI isAgg2 F rfl rfl H.v h5 fun a i5 F=>qW 15 rfl (by kernel_rfl) (xO F rfl (fun w l=>xL F rfl) fun a F=>qW 16 rfl (by kernel_rfl) (xO F rfl (fun w l=>xL F rfl) fun a F=>qE 17 rfl (by kernel_rfl) ?_)))));refine vI underlying170 sizeOf173 F rfl rfl rfl h1 y1 fun a p5 h6 F=>qE 18 rfl (by kernel_rfl) (vF (s':=1) xHr F rfl rfl h6 qH.f2 fun a p6 h7 F=>qE 19 rfl (by kernel_rfl) (vlI isAgg2 F rfl rfl H.v h7 fun a i6 F=>qE 20 rfl (by kernel_rfl) (xO F rfl (fun w l=>wT underlying95 zeroValue95 (fun w=>by simp [sizeOf2];rfl) F rfl rfl rfl rfl (oc rfl (oc rfl (oc rfl (oc rfl on)))) rfl rfl) fun a F=>kP [4,21] (by kernel_rfl) (by simp) ⟨⟨_,rfl,?_⟩,⟨_,rfl,?_⟩,trivial⟩)))
     ·
      refine kJ H (oB isAgg91 F rfl rfl (H.b 0 rfl) rfl fun a F=>xJ ⟨⟨_,H⟩,?_⟩);refine xE H 21 rfl (by kernel_rfl) (cM (R:=qY) (y:=(Line.mk 2 T.var T.value T.con)) underlying91 sizeOf95 zeroValue95 rfl rfl F rfl rfl H (Eo.agg (qY.m (show xS (2) by decide) i4 i5 i6)) fun a w cu H F=>xJ ⟨⟨_,H⟩,?_⟩);exact H1 cu _ _ (F.su) H _ (by kernel_rfl)
     refine kJ H (cM (R:=qY) (y:=(Line.mk 2 T.var T.value T.con)) underlying91 sizeOf95 zeroValue95 rfl rfl F rfl rfl H (Eo.agg (qY.m (show xS (2) by decide) i4 i5 i6)) fun a w cx H F=>xJ ⟨⟨_,H⟩,?_⟩);refine xE H 4 rfl (by kernel_rfl) (oB isAgg91 F rfl rfl (H.b 1 rfl) rfl fun a F=>xJ ⟨⟨_,H⟩,?_⟩);exact H1 cx _ _ (F.su) H _ (by kernel_rfl)
   rintro a w ⟨M,t,rfl,F,H⟩
   have d:=xW cn;refine xG (xF (xV (xA 2 F rfl fun a F=>?_)));obtain⟨w3,rfl⟩:∃ x,x=w:=⟨_,rfl⟩;have fc:=H.sm;obtain⟨X4,N3,g5,e3,H,ar,fd⟩:=(H.s [1,0,2,3] rfl rfl).fza;have U:=g5.rd;obtain⟨z4,c4,d⟩:=xB d;obtain⟨X5,K3,cy⟩:=Sep.lend (K:=[bx f [n,p,xC i,xC I,t,h,.bool C] 148,rl 4 qY 95 t M,rl 1 xI 2 h D]) (L:=[]) H;refine oG F rfl call126 rfl (nO z4 c4 _ H.hN K3 (H.u (e3 ab)) (H.u (e3 ac)) al (kV c1) (H.u U)) (fun a J w ⟨fe,S,i7⟩ F=>?_);subst J;have H:Sep X4 N3 w3 w [bx f [n,p,xC i,xC I,t,h,.bool C] 148,rl 4 qY 95 t M,rl 1 xI 2 h D]:=cy S;refine xA 1 F rfl fun a F=>vG (xA 2 F rfl fun a F=>xJ (qV F rfl (fun b7=>?_) (fun b7=>?_)))
   ·
    replace d:=vX b7 d;refine xV (xA 2 F rfl fun a F=>vO F rfl rfl fun a F=>oD rH F rfl rfl rfl fun a F=>oB isAgg91 F rfl rfl (H.b 0 rfl) rfl fun a F=>xA 1 F rfl fun a F=>vY underlying95 zeroValue95 (fun w=>by simp [sizeOf2];rfl) F rfl rfl rfl rfl rfl (oc rfl (oc rfl on)) rfl rfl fun a F=>cM (R:=qY) (y:=(Line.mk 3 z4 0 0)) underlying91 sizeOf95 zeroValue95 rfl rfl F rfl rfl H (Eo.agg (qY.m (show xS (3) by decide) i7 (show xS 0 by decide) (show xS 0 by decide))) (fun a w ff H F=>?_));obtain⟨z5,c5,d⟩:=xB d;refine oPL (sz:=4) (R:=qY) (z:=(.agg #[xC 0,xC 0,xC 0,xC 0])) (bytes:=32) underlying91 (by kernel_rfl) rfl rfl F rfl rfl rfl (H.s [2,0,1,3] rfl rfl) c5 fun a w cz H F=>vO F rfl rfl fun a F=>oD rH F rfl rfl rfl fun a F=>oW sizeOf91 F rfl rfl rfl (H.s [1,0,2] rfl rfl) ((H.s [1,0,2] rfl rfl).l 1 rfl).one rfl rfl fun w H=>vG (xA 1 F rfl fun a F=>xJ ?_);refine xR (oQ (vT (oQ ?_)));replace d:=kD d ah;refine vT (oQ ?_);replace d:=zZ d ag;have H:=(ar.1 H (Ns.all ⟨n0,⟨n0,⟨n0,trivial⟩⟩⟩));refine xT F rfl (oE F rfl) ?_;obtain rfl:=oj d;exact⟨_,rfl,cz,h,rfl,(H.s [1,2,3,0] rfl rfl),(kV c1)⟩
   replace d:=vW b7 d;refine xN (xG (xV (xA 2 F rfl fun a F=>?_)));obtain⟨z6,c6,d⟩:=xB d;obtain⟨X6,K4,d0⟩:=Sep.lend (K:=[bx f [n,p,xC i,xC I,t,h,.bool C] 148,rl 4 qY 95 t M,rl 1 xI 2 h D]) (L:=[]) H;refine oG F rfl call127 rfl (pE z6 c6 _ H.hN K4 (H.u (e3 ab)) (H.u (e3 ac)) al (kV c1) (H.u U)) (fun a J w ⟨fg,S,i8⟩ F=>?_);subst J;have H:Sep X4 N3 w3 w [bx f [n,p,xC i,xC I,t,h,.bool C] 148,rl 4 qY 95 t M,rl 1 xI 2 h D]:=d0 S;refine xA 1 F rfl fun a F=>xJ (xF (xV (xA 2 F rfl fun a F=>xJ (qV F rfl (fun b8=>?_) (fun b8=>?_)))))
   ·
    replace d:=vX b8 d;refine xF (xV (xA 1 F rfl fun a F=>xJ ?_));obtain⟨o3,d,d1⟩:=xM d;refine oH (fun a w=>∃ (b9:List Int) (au:Value),o3= .nx b9∧Sk a 151 [(0,oO f),(1,j)]∧Sep X4 N3 w3 w [bx f [n,p,xC i,xC I,t,au,.bool C] 148,rl 4 qY 95 t M,rl 1 xI 2 au b9]) ?_ ?_
    ·
     refine oJ ?_;obtain⟨d2,d3,d⟩:=qP d;refine qK (fun g a w=>∃ (k2:Nat) (t3:List (List Int)) (aj:List Int) (V:Value),(k2≤A.2.length∧A.2.drop k2=t3)∧t3.length=g∧qT d2 t3 k2 aj=some o3∧Sk a 151 [(9,xC (k2:Int)),(0,oO f),(1,j)]∧Sep X4 N3 w3 w [bx f [n,p,xC i,xC I,t,V,.bool C] 148,rl 4 qY 95 t M,rl 1 xI 2 V aj]) A.2.length ?_ ?_
     ·
      exact⟨0,A.2,D,h,⟨Nat.zero_le _,rfl⟩,rfl,d,F.su,H⟩
     intro g6 a w ⟨k2,t3,aj,V,P,d4,d,F,H⟩
     cases t3 with
     | nil=>
      replace d:=qO d;have q2:=qQ P.1 P.2;have l2:=vS q2;refine xF (xV (xA 2 F rfl fun a F=>oL underlying38 F rfl rfl U fun a i9 F=>xA 1 F rfl fun a F=>xJ (zD F rfl l2 (qJ ?_))));refine qM (qM (zQ (xG ?_)));exact⟨aj,V,(zH d),F.su,H⟩
     | cons x3 t3=>
      subst d4;replace P:=oZ P.2;have y2:=qX P.2.1;obtain⟨fh,d,d5⟩:=qG d;rw[d3] at d;have l2:=vE P.1;refine xF (xV (xA 2 F rfl fun a F=>oL underlying38 F rfl rfl U fun a bv F=>xA 1 F rfl fun a F=>xJ (zC F rfl l2 (xN ?_))));refine xG (xF ?_);have j2:=gP (Nat.le_of_lt P.1) bv;have m2:=zU P.1 bv;refine oJ ?_;obtain⟨z7,c7,d⟩:=xB d;obtain⟨z8,c8,d⟩:=xB d;refine xD H (by kernel_rfl) fun w H=>dp (fun G=>∀ (ba:Value) (a:Act) (w:World),Sk a 151 [(0,oO f),(1,j),(9,xC (k2:Int)),(99,oO f),(103,V),(110,ba)]→Sep X4 N3 w3 w [rl 1 xI 2 ba ([z7]),bx f [n,p,xC i,xC I,t,V,.bool C] 148,rl 4 qY 95 t M,rl 1 xI 2 V aj]→∀ ls,ls = #[true,true,true,true,true,true,true,true,true,true,true,true,false,false,false,false]→G 4 ls a w) ?_ (fun H2=>?_)
      ·
       intro ba a w F H ls b6;subst b6;refine xE H 12 rfl (by kernel_rfl) (oPL (sz:=1) (R:=xI) (z:=(xC 0)) (bytes:=8) underlying41 (by kernel_rfl) rfl rfl F rfl rfl rfl (H.s [3,0,1,2] rfl rfl) c8 fun a w d6 H F=>xJ ⟨⟨_,H⟩,?_⟩);refine qE 13 rfl (by kernel_rfl) (xO F rfl (fun w l=>vM F rfl) fun a F=>qE 14 rfl (by kernel_rfl) (xO F rfl (fun w l=>oM xHe F rfl rfl) fun a F=>xE H 15 rfl (by kernel_rfl) (oW sizeOf41 F rfl rfl rfl (H.s [1,0,2] rfl rfl) ((H.s [1,0,2] rfl rfl).l 1 rfl).one rfl rfl fun w H=>xJ ⟨⟨_,H⟩,?_⟩)));refine vZ (by kernel_rfl) (vH (xG (xY (xA 1 F rfl fun a F=>vP F rfl rfl rfl m2 fun a F=>xA 1 F rfl fun a F=>xJ ?_))));replace d:=vU d d5;exact⟨_,Nat.lt_succ_self _,k2+1,t3,z8,d6,⟨P.1,P.2.2⟩,rfl,d,F.su,(H.s [0,2,1] rfl rfl)⟩
      refine qW 0 rfl (by kernel_rfl) (xO F rfl (fun w l=>xL F rfl) fun a F=>qW 1 rfl (by kernel_rfl) (xO F rfl (fun w l=>xL F rfl) fun a F=>qE 2 rfl (by kernel_rfl) (xO F rfl (fun w l=>vM F rfl) fun a F=>qE 3 rfl (by kernel_rfl) (xO F rfl (fun w l=>oM xHe F rfl rfl) fun a F=>qW 5 rfl (by kernel_rfl) (xO F rfl (fun w l=>xL F rfl) fun a F=>qW 6 rfl (by kernel_rfl) ?_)))));refine xO F rfl (fun w l=>xL F rfl) fun a F=>qE 7 rfl (by kernel_rfl) (vI underlying38 sizeOf41 F rfl rfl rfl U y2 fun a p7 h9 F=>qE 8 rfl (by kernel_rfl) (vlS isAgg41 F rfl rfl H.v h9 fun a fi d7 F=>qE 9 rfl (by kernel_rfl) (vI underlying41 sizeOf2 F rfl rfl rfl d7 c7 fun a p8 d8 F=>qE 10 rfl (by kernel_rfl) (vlI isAgg2 F rfl rfl H.v d8 fun a bw F=>kP [4,11] (by kernel_rfl) (by simp) ⟨⟨_,rfl,?_⟩,⟨_,rfl,?_⟩,trivial⟩))))
      ·
       refine kJ H (oB isAgg41 F rfl rfl (H.b 0 rfl) rfl fun a F=>xJ ⟨⟨_,H⟩,?_⟩);refine xE H 11 rfl (by kernel_rfl) (cM (R:=xI) (y:=z7) underlying41 sizeOf2 zeroValue2 rfl rfl F rfl rfl H (Eo.int bw) fun a w d9 H F=>xJ ⟨⟨_,H⟩,?_⟩);exact H2 d9 _ _ (F.su) H _ (by kernel_rfl)
      refine kJ H (cM (R:=xI) (y:=z7) underlying41 sizeOf2 zeroValue2 rfl rfl F rfl rfl H (Eo.int bw) fun a w da H F=>xJ ⟨⟨_,H⟩,?_⟩);refine xE H 4 rfl (by kernel_rfl) (oB isAgg41 F rfl rfl (H.b 1 rfl) rfl fun a F=>xJ ⟨⟨_,H⟩,?_⟩);exact H2 da _ _ (F.su) H _ (by kernel_rfl)
    rintro a w ⟨b9,au,rfl,F,H⟩
    have d:=xW d1;refine xG (xV (xA 1 F rfl fun a F=>xJ (xR (oQ (vT (oQ ?_))))));replace d:=kD d ah;refine vT (oQ ?_);replace d:=zZ d ag;have H:=(ar.1 H (Ns.all ⟨n0,⟨n0,⟨n0,trivial⟩⟩⟩));refine xT F rfl (oE F rfl) ?_;obtain rfl:=oj d;exact⟨_,rfl,t,au,rfl,(H.s [1,2,3,0] rfl rfl),(kV c1)⟩
   replace d:=vW b8 d;refine xN (xG (xV (xA 2 F rfl fun a F=>?_)));obtain⟨z9,c9,d⟩:=xB d;refine oI underlying38 sizeOf41 F rfl rfl rfl U c9 fun a p9 db F=>olS isAgg41 F rfl rfl H.sm db (fun a fj dc F=>?_);obtain⟨bb,dd,d⟩:=xB d;refine oI underlying41 sizeOf2 F rfl rfl rfl dc dd fun a fk de F=>olI isAgg2 F rfl rfl H.sm de fun a bc F=>xA 1 F rfl fun a F=>vG (xA 2 F rfl fun a F=>vO F rfl rfl fun a F=>oD rH F rfl rfl rfl (fun a F=>?_));refine oB isAgg91 F rfl rfl (H.b 0 rfl) rfl fun a F=>xA 2 F rfl fun a F=>vY underlying95 zeroValue95 (fun w=>by simp [sizeOf2];rfl) F rfl rfl rfl rfl rfl (oc rfl (oc rfl (oc rfl on))) rfl rfl fun a F=>cM (R:=qY) (y:=(Line.mk 1 z6 bb 0)) underlying91 sizeOf95 zeroValue95 rfl rfl F rfl rfl H (Eo.agg (qY.m (show xS (1) by decide) i8 bc (show xS 0 by decide))) (fun a w fl H F=>?_);obtain⟨df,dg,d⟩:=xB d;refine oPL (sz:=4) (R:=qY) (z:=(.agg #[xC 0,xC 0,xC 0,xC 0])) (bytes:=32) underlying91 (by kernel_rfl) rfl rfl F rfl rfl rfl (H.s [2,0,1,3] rfl rfl) dg fun a w c0 H F=>vO F rfl rfl fun a F=>oD rH F rfl rfl rfl fun a F=>oW sizeOf91 F rfl rfl rfl (H.s [1,0,2] rfl rfl) ((H.s [1,0,2] rfl rfl).l 1 rfl).one rfl rfl fun w H=>vG (xA 1 F rfl fun a F=>?_);obtain⟨z12,dh,d⟩:=xB d;refine oG F rfl call128 rfl (uB z12 dh _ aA (H.a U)) (fun a J w ⟨v25,fm,S⟩ F=>?_);subst J;have H:=H.r1 S n0;refine xA 1 F rfl fun a F=>vG (xA 3 F rfl fun a F=>cM (R:=xI) (y:=bb) underlying41 sizeOf2 zeroValue2 rfl rfl F rfl rfl H (Eo.int bc) (fun a w fn H F=>?_));obtain⟨fo,c13,d⟩:=xB d;refine oRl underlying38 sizeOf41 F rfl rfl rfl H 1 rfl c13 (fun a fp fq di F=>?_);have H:=(H.s [1,0,2,3,4] rfl rfl).lw;refine oSc sizeOf41 F rfl rfl rfl H di (fZ c13) n0 (fun e q=>(Eo.sl q.ld)) (H.l 1 rfl).one rfl fun w H=>xJ (xF (xV (xA 2 F rfl fun a F=>?_)));obtain⟨Q,dj,d⟩:=xB d;obtain⟨X7,K5,dk⟩:=Sep.lend (K:=[bx f [n,p,xC i,xC I,c0,h,.bool C] 148,rl 4 qY 95 c0 df,rl 1 xI 2 h D,rw N0 1 (vQ 1 xI) 41 v25 (z12.set (z6).toNat ([bb]))]) (L:=[]) (H.s [1,2,3,0] rfl rfl);refine oG F rfl call95 rfl (ih Q dj _ H.hN K5 (H.u (e3 ab)) (H.u (e3 ac)) al (kV c1)) (fun a J w ⟨av,aw,fs,S,i13⟩ F=>?_);subst J;have H:Sep X4 N3 w3 w [bx f [n,p,xC i,xC Q.2.1,av,aw,.bool Q.2.2.2.2.1] 148,rl 4 qY 95 av Q.2.2.1,rl 1 xI 2 aw Q.2.2.2.1,rw N0 1 (vQ 1 xI) 41 v25 Q.2.2.2.2.2]:=dk S;refine xJ (qV F rfl (fun bd=>?_) (fun bd=>?_))
   ·
    replace d:=vX bd d;refine xV (xA 1 F rfl fun a F=>xJ (xR (oQ (vT (oQ ?_)))));replace d:=kD d ah;refine vT (oQ ?_);replace d:=zZ d ag;have H:=(ar.1 H (Ns.all ⟨n0,⟨n0,⟨n0,⟨n0,trivial⟩⟩⟩⟩));refine xT F rfl (oE F rfl) ?_;obtain rfl:=oj d;exact⟨_,rfl,av,aw,rfl,(H.s [1,2,3,0] rfl rfl),i13⟩
   replace d:=vW bd d;refine xN (xG (xY (xA 4 F rfl fun a F=>oI underlying38 sizeOf41 F rfl rfl rfl U c9 fun a ft dl F=>olS isAgg41 F rfl rfl H.sm dl fun a fu dm F=>xA 1 F rfl fun a F=>?_)));obtain⟨z15,dq,d⟩:=xB d;refine oG F rfl call129 rfl (mN z15 dq _ aA (H.a dm) bc) (fun a J w ⟨fv,fw,S⟩ F=>?_);subst J;have H:=H.r1 S n0;have H:=(ar.1 H (Ns.all ⟨n0,⟨n0,⟨n0,⟨n0,⟨n0,trivial⟩⟩⟩⟩⟩));refine oRi underlying38 sizeOf41 F rfl rfl rfl H 0 rfl c9 fun a fy g0 dr F=>oSc sizeOf41 F rfl rfl rfl H dr (fZ c9) n0 (fun e q=>(Eo.sl q.ld)) (H.l 1 rfl).one rfl fun w H=>qU (vH (xG ?_));replace d:=vU d ah;exact⟨t1,(by omega),(A.2.set (z6).toNat z15),Q.2.1,Q.2.2.1,av,Q.2.2.2.1,aw,Q.2.2.2.2.1,d,F.su,(H.s [1,2,3,0] rfl rfl),i13⟩
  rintro a w ⟨s1,s2,s3,v2,s4,v3,s5,rfl,F,H,ds⟩
  have d:=xW ag;refine xJn (xT F rfl (oE F rfl) ?_);obtain rfl:=oj d;exact⟨_,rfl,v2,v3,rfl,H,ds⟩
theorem nZ {B:Nat→Prop} {N:Nat} {p:Template} {t:Instance} {e f:Int} {x:List Line} {y:List Int} {A:Bool} {G:List (List Int)} (r:Bool×Int×(List Line)×(List Int)×Bool×(List (List Int))) (M:kN N p t e f x y A G=some r) {j:Nat} {h:Value} {i:Value} {C:Value} {D:Value} {n:Value} {H:List Nat} (d:World) (O:∀ c,B c→c<d.heap.size) (P:Sep H B d d [bx j [h,i,xC e,xC f,C,D,.bool A] 148,rl 4 qY 95 C x,rl 1 xI 2 D y,rw N0 1 (vQ 1 xI) 41 n G]) (I:Bo B d (Pt 2 xH) h p) (J:Bo B d (Pt 2 xK) i t) (K:xS e) (L:xS f):Calls Tryz.prog 95 #[oO j,n] d (Gv (fun v w'=>∃ (E F:Value),v= .bool r.1∧Sep H B d w' [bx j [h,i,xC e,xC r.2.1,E,F,.bool r.2.2.2.2.1] 148,rl 4 qY 95 E r.2.2.1,rl 1 xI 2 F r.2.2.2.1,rw N0 1 (vQ 1 xI) 41 n r.2.2.2.2.2]∧xS r.2.1)):=
  nA N r M d O P I J K L
def dO (N:Nat) (d:Template) (e:Instance) (h:List (List Int)) (f:Int):Option ((Template×Instance×Int×Int×(List Line)×(List Int)×Bool)×Int×(List (List Int))):=
 xZ (kN N d e f 0 ([]) ([]) false h) fun c=>
 if c.2.2.2.2.1 then
  some ((d,e,f,c.2.1,c.2.2.1,c.2.2.2.1,c.2.2.2.2.1),7,c.2.2.2.2.2)
 else
  if c.1 then
   some ((d,e,f,c.2.1,c.2.2.1,c.2.2.2.1,c.2.2.2.2.1),0,c.2.2.2.2.2)
  else
   some ((d,e,f,c.2.1,c.2.2.1,c.2.2.2.1,c.2.2.2.2.1),6,c.2.2.2.2.2)
theorem mX {B:Nat→Prop} {N:Nat} {T:Template} {U:Instance} {G:List (List Int)} {i:Int} (r:(Template×Instance×Int×Int×(List Line)×(List Int)×Bool)×Int×(List (List Int))) (d:dO N T U G i=some r) {f:Value} {h:Value} {j:Value} {I:List Nat} (e:World) (hN:∀ c,B c→c<e.heap.size) (W:Sep I B e e [rw N0 1 (vQ 1 xI) 41 j G]) (p:Bo B e (Pt 2 xH) f T) (t:Bo B e (Pt 2 xK) h U) (C:xS i):Calls Tryz.prog 53 #[f,h,j,xC i] e (Gv (fun v w'=>∃ (M:Nat) (O P Q R:Value),v= .tuple #[oO M,xC r.2.1]∧Sep I B e w' [bx M [O,P,xC r.1.2.2.1,xC r.1.2.2.2.1,Q,R,.bool r.1.2.2.2.2.2.2] 148,rl 4 qY 95 Q r.1.2.2.2.2.1,rl 1 xI 2 R r.1.2.2.2.2.2.1,rw N0 1 (vQ 1 xI) 41 j r.2.2]∧Bo B e (Pt 2 xH) O r.1.1∧Bo B e (Pt 2 xK) P r.1.2.1∧xS r.1.2.2.1∧xS r.1.2.2.2.1∧xS r.2.1)):=by
 unfold dO at d
 refine xX (L:=[(0,f),(1,h),(2,j),(3,xC i)]) func53 rfl rfl rfl (sc rfl (sc rfl (sc rfl (sc rfl sn)))) (fun a F=>?_);have H:=W;refine xV (xA 2 F rfl fun a F=>vG (xA 3 F rfl fun a F=>?_));refine vY underlying148 zeroValue148 (fun w=>by simp [sizeOf2,sizeOf4,sizeOf41,sizeOf63,sizeOf64,sizeOf91];rfl) F rfl rfl rfl rfl rfl (oc (H.a p).pone (oc (H.a t).pone (oc rfl on))) rfl rfl fun a F=>oX F rfl rfl rfl H fun a w x H F=>xA 1 F rfl fun a F=>vG (xA 2 F rfl fun a F=>?_);have H:=H.nl 4 qY 95;have H:=H.nl 1 xI 2;obtain⟨n,X,d⟩:=xB d;obtain⟨Z,K1,V⟩:=Sep.lend (K:=[bx x [f,h,xC i,xC 0,qD,qD,.bool false] 148,rl 4 qY 95 qD ([]),rl 1 xI 2 qD ([]),rw N0 1 (vQ 1 xI) 41 j G]) (L:=[]) (H.s [2,1,0,3] rfl rfl);refine oG F rfl call95 rfl (nZ n X _ H.hN K1 (H.u p) (H.u t) C (show xS 0 by decide)) (fun a Y w ⟨y,A,a0,S,J⟩ F=>?_);subst Y;have H:Sep I B e w [bx x [f,h,xC i,xC n.2.1,y,A,.bool n.2.2.2.2.1] 148,rl 4 qY 95 y n.2.2.1,rl 1 xI 2 A n.2.2.2.1,rw N0 1 (vQ 1 xI) 41 j n.2.2.2.2.2]:=V S;refine xA 1 F rfl fun a F=>xJ (xF (oJ (xV (xA 1 F rfl fun a F=>vO F rfl rfl fun a F=>oD xHn F rfl rfl rfl fun a F=>oB isAgg4 F rfl rfl (H.b 0 rfl) rfl (fun a F=>?_)))));refine xA 1 F rfl fun a F=>xJ (qV F rfl (fun D=>?_) (fun D=>?_))
 ·
  replace d:=vX D d;refine xV (xA 3 F rfl fun a F=>xJ (xR (vT (oQ (vJ F rfl (oE F rfl) (oE F rfl) ?_)))));obtain rfl:=oj d;exact⟨_,rfl,x,f,h,y,A,rfl,H,p,t,C,J,(show xS (7) by decide)⟩
 replace d:=vW D d;refine xV (xA 2 F rfl fun a F=>xJ (qV F rfl (fun E=>?_) (fun E=>?_)))
 ·
  replace d:=vX E d;refine xV (xA 3 F rfl fun a F=>xJ (xR (vT (oQ (vJ F rfl (oE F rfl) (oE F rfl) ?_)))));obtain rfl:=oj d;exact⟨_,rfl,x,f,h,y,A,rfl,H,p,t,C,J,(show xS (0) by decide)⟩
 replace d:=vW E d;refine xN (vH (xG (xV (xA 3 F rfl fun a F=>xJ (xR ?_)))));refine vJ F rfl (oE F rfl) (oE F rfl) ?_;obtain rfl:=oj d;exact⟨_,rfl,x,f,h,y,A,rfl,H,p,t,C,J,(show xS (6) by decide)⟩
def fV (N:Nat) (f:Template) (h:Instance) (i:List Literal) (j:Int):Option (Bool×Int):=
 xZ (aQ f h) fun n=>
 zR (σ:=(List (List Int))) (
  qT (σ:=(List (List Int))) (ρ:=Bool×Int) (fun (y:Nat) (c:Literal) (d:(List (List Int)))=>
   xZ (ix d c.var) fun p=>
   xZ (dA p c.value) fun t=>
   if t then
    some (.go (d.set (c.var).toNat ([c.value])))
   else
    some (.go (d.set (c.var).toNat ([])))) i 0 n) fun x=>
 xZ (dO N f h x j) fun e=>
 if (e.2.1==7) then
  some (false,e.2.1)
 else
  some ((e.2.1==6),0)
theorem sG {B:Nat→Prop} {N:Nat} {x0:Template} {x1:Instance} {t:List Literal} {x:Int} (r:Bool×Int) (d:fV N x0 x1 t x=some r) {D:Value} {E:Value} {M:Value} (i:World) (hN:∀ c,B c→c<i.heap.size) (A0:Bo B i (Pt 2 xH) D x0) (A1:Bo B i (Pt 2 xK) E x1) (G:Bo B i (Sl 2 xU) M t) (aa:xS x):Calls Tryz.prog 33 #[D,E,M,xC x] i (Gv (fun v w'=>v= .tuple #[.bool r.1,xC r.2]∧Sep [] B i w' []∧xS r.2)):=by
 unfold fV at d
 refine xX (L:=[(0,D),(1,E),(2,M),(3,xC x)]) func33 rfl rfl rfl (sc rfl (sc rfl (sc rfl (sc rfl sn)))) (fun a F=>?_);have H:=Sep.start hN;refine xV (xA 2 F rfl fun a F=>vG (xA 2 F rfl fun a F=>?_));obtain⟨z1,c1,d⟩:=xB d;refine oG F rfl call54 rfl (lT z1 c1 _ aA (H.a A0) (H.a A1)) (fun a U w ⟨v3,b6,S⟩ F=>?_);subst U;have H:=H.r1 S n0;refine xA 1 F rfl fun a F=>xJ (xF (xV (xA 1 F rfl fun a F=>xJ ?_)));obtain⟨o1,d,ab⟩:=xM d;refine oH (fun a w=>∃ (O:List (List Int)) (I:Value),o1= .nx O∧Sk a 65 [(0,D),(1,E),(3,xC x),(10,I)]∧Sep [] B i w [rw N0 1 (vQ 1 xI) 41 I O]) ?_ ?_
 ·
  refine oJ ?_;obtain⟨ac,ad,d⟩:=qP d;refine qK (fun g a w=>∃ (n:Nat) (j:List Literal) (A:List (List Int)) (C:Value),(n≤t.length∧t.drop n=j)∧j.length=g∧qT ac j n A=some o1∧Sk a 65 [(11,xC (n:Int)),(0,D),(1,E),(2,M),(3,xC x),(10,C)]∧Sep [] B i w [rw N0 1 (vQ 1 xI) 41 C A]) t.length ?_ ?_
  ·
   exact⟨0,t,z1,v3,⟨Nat.zero_le _,rfl⟩,rfl,d,F.su,H.lw⟩
  intro g1 a w ⟨n,j,A,C,f,ae,d,F,H⟩
  cases j with
  | nil=>
   replace d:=qO d;have q1:=qQ f.1 f.2;have V:=vS q1;refine xF (xV (xA 2 F rfl fun a F=>oL underlying32 F rfl rfl G fun a i1 F=>xA 1 F rfl fun a F=>xJ (zD F rfl V (qJ ?_))));refine qM (qM (zQ (xG ?_)));exact⟨A,C,(zH d),F.su,H⟩
  | cons P j=>
   subst ae;replace f:=oZ f.2;have W:=qX f.2.1;obtain⟨b7,d,X⟩:=qG d;rw[ad] at d;have V:=vE f.1;refine xF (xV (xA 2 F rfl fun a F=>oL underlying32 F rfl rfl G fun a i2 F=>xA 1 F rfl fun a F=>xJ (zC F rfl V (xN ?_))));refine xG (xF ?_);have j1:=gP (Nat.le_of_lt f.1) i2;have m1:=zU f.1 i2;refine oJ (xV (xA 2 F rfl fun a F=>oI underlying32 sizeOf35 F rfl rfl rfl G W fun a p1 h1 F=>oF (s':=1) nW F rfl rfl h1 xU.f0 fun a p2 h2 F=>olI isAgg2 F rfl rfl H.sm h2 fun a i3 F=>xA 1 F rfl fun a F=>xJ ?_));refine xF (xQ H (by kernel_rfl) (by kernel_rfl) (xP F rfl (fun w l=>xL F rfl) fun a F=>xP F rfl (fun w l=>xL F rfl) (fun a F=>?_)));obtain⟨z2,J,d⟩:=xB d;refine qI underlying38 sizeOf41 F rfl rfl rfl (H.r 0 rfl) J fun a p3 h3 F=>qlS isAgg41 F rfl rfl qA h3 fun a v6 h4 F=>xP F rfl (fun w l=>xL F rfl) fun a F=>xP F rfl (fun w l=>xL F rfl) fun a F=>qI underlying32 sizeOf35 F rfl rfl rfl G W fun a p4 h5 F=>qF (s':=1) pV F rfl rfl h5 xU.f1 fun a p5 h6 F=>qlI isAgg2 F rfl rfl H.q h6 (fun a i4 F=>?_);obtain⟨z3,c3,d⟩:=xB d;refine fX F rfl call76 rfl (fun w w' h l=>l.through h) (fun w l=>sD z3 c3 w aA (h4.w l) i4) fun a F=>kZ fun w H=>xG (qV F rfl (fun Q=>?_) (fun Q=>?_))
   ·
    replace d:=vX Q d;refine xY (xA 4 F rfl fun a F=>oI underlying32 sizeOf35 F rfl rfl rfl G W fun a p6 h7 F=>oF (s':=1) pV F rfl rfl h7 xU.f1 fun a p7 h8 F=>olI isAgg2 F rfl rfl H.sm h8 fun a i5 F=>cM (R:=xI) (y:=P.value) underlying41 sizeOf2 zeroValue2 rfl rfl F rfl rfl H (Eo.int i5) fun a w v7 H F=>oRi underlying38 sizeOf41 F rfl rfl rfl H 1 rfl J fun a p8 h9 af F=>oSc sizeOf41 F rfl rfl rfl (H.s [1,0] rfl rfl) af (fZ J) n0 (fun e q=>(Eo.sl q.ld)) ((H.s [1,0] rfl rfl).l 1 rfl).one rfl (fun w H=>?_));refine qU (vH (xG (xY (xA 1 F rfl fun a F=>vP F rfl rfl rfl m1 fun a F=>xA 1 F rfl fun a F=>xJ ?_))));replace d:=vU d X;exact⟨_,Nat.lt_succ_self _,n+1,j,(A.set (P.var).toNat ([P.value])),C,⟨f.1,f.2.2⟩,rfl,d,F.su,H⟩
   replace d:=vW Q d;refine xY (xA 2 F rfl fun a F=>oR0 (R:=xI) underlying41 sizeOf2 F rfl H fun a w v8 H F=>oRi underlying38 sizeOf41 F rfl rfl rfl H 1 rfl J fun a p9 b8 ag F=>oSc sizeOf41 F rfl rfl rfl (H.s [1,0] rfl rfl) ag (fZ J) n0 (fun e q=>(Eo.sl q.ld)) ((H.s [1,0] rfl rfl).l 1 rfl).one rfl fun w H=>qU (vH (xG (xY (xA 1 F rfl fun a F=>?_)))));refine vP F rfl rfl rfl m1 fun a F=>xA 1 F rfl fun a F=>xJ ?_;replace d:=vU d X;exact⟨_,Nat.lt_succ_self _,n+1,j,(A.set (P.var).toNat ([])),C,⟨f.1,f.2.2⟩,rfl,d,F.su,H⟩
 rintro a w ⟨O,I,rfl,F,H⟩
 have d:=xW ab;refine xG (xV (xA 4 F rfl fun a F=>?_));obtain⟨p,c4,d⟩:=xB d;obtain⟨X1,K1,ah⟩:=Sep.lend (K:=[rw N0 1 (vQ 1 xI) 41 I O]) (L:=[]) H;refine oG F rfl call53 rfl (mX p c4 _ H.hN K1 (H.u A0) (H.u A1) aa) (fun a U w ⟨b1,v9,ai,Y,Z,b9,S,a0,a1,i6,i7,i8⟩ F=>?_);subst U;have a0:=H.dn a0;have a1:=H.dn a1;have H:Sep [] B i w [bx b1 [v9,ai,xC p.1.2.2.1,xC p.1.2.2.2.1,Y,Z,.bool p.1.2.2.2.2.2.2] 148,rl 4 qY 95 Y p.1.2.2.2.2.1,rl 1 xI 2 Z p.1.2.2.2.2.2.1,rw N0 1 (vQ 1 xI) 41 I p.2.2]:=ah S;refine xA 5 F rfl fun a F=>xJ (xF (xV (xA 1 F rfl fun a F=>?_)));refine xA 1 F rfl fun a F=>xJ (qV F rfl (fun T=>?_) (fun T=>?_))
 ·
  replace d:=vX T d;refine xV (xA 3 F rfl fun a F=>xJ (xR (oQ (vJ F rfl (oE F rfl) (oE F rfl) ?_))));obtain rfl:=oj d;exact⟨_,rfl,rfl,(H.s [] rfl rfl),i8⟩
 replace d:=vW T d;refine xN (xG (xV (xA 4 F rfl fun a F=>xJ (xR ?_))));refine vJ F rfl (oE F rfl) (oE F rfl) ?_;obtain rfl:=oj d;exact⟨_,rfl,rfl,(H.s [] rfl rfl),(show xS (0) by decide)⟩
def gY (N:Nat) (c:Template) (d:Instance) (e:List Literal) (f:Int):Option (Bool×Int):=
 xZ (iV (Template.mk c.size c.rels) (Instance.mk d.vars d.cons) e f) fun h=>
 if (h != 0) then
  some (false,h)
 else
  xZ (fV N (Template.mk c.size c.rels) (Instance.mk d.vars d.cons) e f) fun i=>
  some (i.1,i.2)
theorem wI {B:Nat→Prop} {N:Nat} {t:Template} {x:Instance} {y:List Literal} {f:Int} (r:Bool×Int) (d:gY N t x y f=some r) {i:Value} {j:Value} {n:Value} (e:World) (J:∀ c,B c→c<e.heap.size) (K:Bo B e (kK 2 xH) i t) (M:Bo B e (kK 2 xK) j x) (A:Bo B e (Sl 2 xU) n y) (p:xS f):Calls Tryz.prog 32 #[i,j,n,xC f] e (Gv (fun v w'=>v= .tuple #[.bool r.1,xC r.2]∧Sep [] B e w' []∧xS r.2)):=by
 unfold gY at d
 refine xX (L:=[(0,i),(1,j),(2,n),(3,xC f)]) func32 rfl rfl rfl (sc rfl (sc rfl (sc rfl (sc rfl sn)))) (fun a F=>?_);have H:=Sep.start J;refine xV ?_;obtain⟨X,rfl,C,D⟩:=xH.o K;refine oX F rfl rfl rfl H (fun a w Y H F=>?_);obtain⟨V,rfl,E,G⟩:=xK.o M;refine oX F rfl rfl rfl H fun a w Z H F=>xA 2 F rfl fun a F=>xJ (xF (xV (xA 2 F rfl fun a F=>?_)));obtain⟨O,P,d⟩:=xB d;refine oKI F rfl call75 rfl H (uC O P _ aA (xH.b (H.g 1 rfl).bk C (H.a D)) (xK.b (H.g 0 rfl).bk E (H.a G)) (H.a A) p) fun a w H I F=>xA 1 F rfl fun a F=>vG (xA 2 F rfl fun a F=>xJ (qV F rfl (fun h=>?_) (fun h=>?_)))
 ·
  replace d:=vX h d;refine xV (xA 3 F rfl fun a F=>xJ (xR (oQ (vJ F rfl (oE F rfl) (oE F rfl) ?_))));obtain rfl:=oj d;exact⟨_,rfl,rfl,(H.s [] rfl rfl),I⟩
 replace d:=vW h d;refine xN (xG (xV (xA 2 F rfl fun a F=>?_)));obtain⟨Q,R,d⟩:=xB d;refine oG F rfl call33 rfl (sG Q R _ aA (xH.b (H.g 1 rfl).bk C (H.a D)) (xK.b (H.g 0 rfl).bk E (H.a G)) (H.a A) p) (fun a T w ⟨W,S,U⟩ F=>?_);subst T;have H:=H.r0 S;refine xA 4 F rfl fun a F=>xJ (xR (vJ F rfl (oE F rfl) (oE F rfl) ?_));obtain rfl:=oj d;exact⟨_,rfl,rfl,(H.s [] rfl rfl),U⟩
def dS (N:Nat) (e:Template) (f:Instance) (j:List Literal) (n:Int):Option ((List Literal)×Int):=
 xZ (gY N (Template.mk e.size e.rels) (Instance.mk f.vars f.cons) j n) fun h=>
 if (h.2 != 0) then
  some ([],h.2)
 else
  if (!h.1) then
   some ([],4)
  else
   xZ (ap ([]) j) fun x=>
   zR (σ:=(List Literal)×Int) (
    fA (σ:=(List Literal)×Int) (ρ:=(List Literal)×Int) (fun(s:(List Literal)×Int)=>
      match s with
      | (c,d)=>
      if (decide (d<(c.length:Int))) then
       xZ (sl c 0 d) fun y=>
       xZ (ck (d+1)) fun p=>
       xZ (sl c p (c.length:Int)) fun A=>
       xZ (ap ([]) y) fun B=>
       xZ (ap B A) fun t=>
       xZ (fV N (Template.mk e.size e.rels) (Instance.mk f.vars f.cons) t n) fun i=>
       if (i.2 != 0) then
        some (.ret ([],i.2))
       else
        if i.1 then
         some (.go (t,d))
        else
         some (.go (c,p))
      else
       some (.brk (c,d))) N (x,0)) fun(C,D)=>
   some (C,0)
theorem rN {B:Nat→Prop} {N:Nat} {G:Template} {I:Instance} {X:List Literal} {h:Int} (r:(List Literal)×Int) (d:dS N G I X h=some r) {J:Value} {K:Value} {M:Value} (e:World) (hN:∀ c,B c→c<e.heap.size) (A0:Bo B e (kK 2 xH) J G) (A1:Bo B e (kK 2 xK) K I) (Y:Bo B e (Sl 2 xU) M X) (U:xS h):Calls Tryz.prog 10 #[J,K,M,xC h] e (Gv (fun v w'=>∃ (V:Value),v= .tuple #[V,xC r.2]∧Sep [] B e w' [rl 2 xU 35 V r.1]∧xS r.2)):=by
 unfold dS at d
 refine xX (L:=[(0,J),(1,K),(2,M),(3,xC h)]) func10 rfl rfl rfl (sc rfl (sc rfl (sc rfl (sc rfl sn)))) (fun a F=>?_);have H:=Sep.start hN;refine xV ?_;obtain⟨v3,rfl,Z,h1⟩:=xH.o A0;refine oX F rfl rfl rfl H (fun a w b1 H F=>?_);obtain⟨aa,rfl,i2,h2⟩:=xK.o A1;refine oX F rfl rfl rfl H fun a w b2 H F=>xA 2 F rfl fun a F=>vG (dJ isAgg26 sizeOf26 F rfl rfl (H.b 1 rfl) rfl rfl fun a F=>dJ isAgg29 sizeOf29 F rfl rfl (H.b 0 rfl) rfl rfl fun a F=>xA 2 F rfl fun a F=>?_);obtain⟨z1,c1,d⟩:=xB d;refine oG F rfl call32 rfl (wI z1 c1 _ aA (xH.m Z (H.a h1)) (xK.m i2 (H.a h2)) (H.a Y) U) (fun a O w ⟨b6,S,i3⟩ F=>?_);subst O;have H:=H.r0 S;refine xA 5 F rfl fun a F=>xJ (xF (xV (xA 1 F rfl fun a F=>?_)));refine xA 1 F rfl fun a F=>xJ (qV F rfl (fun t=>?_) (fun t=>?_))
 ·
  replace d:=vX t d;refine xV (oR0 (R:=xU) underlying32 sizeOf35 F rfl H fun a w v4 H F=>xA 3 F rfl fun a F=>xJ (xR (oQ (vJ F rfl (oE F rfl) (oE F rfl) ?_))));obtain rfl:=oj d;exact⟨_,rfl,v4,rfl,(H.s [0] rfl rfl),i3⟩
 replace d:=vW t d;refine xN (xG (xF (xV (xA 2 F rfl fun a F=>xJ (qV F rfl (fun y=>?_) (fun y=>?_))))))
 ·
  replace d:=vX y d;refine xV (oR0 (R:=xU) underlying32 sizeOf35 F rfl H fun a w v5 H F=>xA 2 F rfl fun a F=>xJ (xR (oQ (vJ F rfl (oE F rfl) (oE F rfl) ?_))));obtain rfl:=oj d;exact⟨_,rfl,v5,rfl,(H.s [0] rfl rfl),(show xS (4) by decide)⟩
 replace d:=vW y d;refine xN (xG (xV (oR0 (R:=xU) underlying32 sizeOf35 F rfl H fun a w v6 H F=>xA 1 F rfl fun a F=>?_)));obtain⟨z2,ab,d⟩:=xB d;refine oPf (sz:=2) (R:=xU) (z:=(.agg #[xC 0,xC 0])) (bytes:=16) underlying32 (by kernel_rfl) rfl rfl F rfl rfl rfl H.lw (H.lw.a Y) ab (fun a w v7 H F=>?_);have H:=H.tl;refine xA 1 F rfl fun a F=>xJ (xF (xV (xA 1 F rfl fun a F=>xJ ?_)));obtain⟨o1,d,W⟩:=xM d;refine oH (fun a w=>∃ (P:List Literal) (p:Value) (Q:Int),o1= .nx (P,Q)∧Sk a 64 [(12,p)]∧Sep [] B e w [rl 2 xU 35 p P]∧xS Q) ?_ ?_
 ·
  refine oJ ?_;obtain⟨ac,ad,d⟩:=bJ d;refine qK (fun g a w=>∃ (i:List Literal) (j:Value) (f:Int),fA ac g (i,f)=some o1∧Sk a 64 [(3,xC h),(4,oO b1),(5,oO b2),(12,j),(13,xC f)]∧Sep [] B e w [rl 2 xU 35 j i,bx b2 [xC I.vars,aa] 29,bx b1 [xC G.size,v3] 26]∧xS f) N ?_ ?_
  ·
   exact⟨z2,v7,0,d,F.su,H,(show xS (0) by decide)⟩
  intro g1 a w ⟨i,j,f,d,F,H,i4⟩;obtain⟨b7,t1,b8,d,n⟩:=kR d;rw[ad] at d;refine xF (xV (xA 2 F rfl fun a F=>oL underlying32 F rfl rfl (H.l 0 rfl) fun a i5 F=>xA 1 F rfl fun a F=>xJ (qV F rfl (fun A=>?_) (fun A=>?_))))
  ·
   replace d:=vX A d;refine xN (xG (oJ (xF ?_)));obtain⟨z3,c2,d⟩:=xB d;obtain⟨z4,T,d⟩:=xB d;obtain⟨z5,c4,d⟩:=xB d;obtain⟨z6,c5,d⟩:=xB d;obtain⟨z7,c6,d⟩:=xB d;obtain⟨w1,rfl⟩:∃ x,x=w:=⟨_,rfl⟩;have b9:=H.sm;obtain⟨X1,N1,g2,e1,H,C,ba⟩:=H.fza;have h3:=g2.ld;refine xD H (by kernel_rfl) fun w H=>qW 1 rfl (by kernel_rfl) (xO F rfl (fun w l=>xL F rfl) fun a F=>qW 2 rfl (by kernel_rfl) (xO F rfl (fun w l=>xL F rfl) fun a F=>qE 3 rfl (by kernel_rfl) (vC underlying32 sizeOf35 F rfl rfl rfl rfl h3 c2 fun a bb h4 F=>qW 5 rfl (by kernel_rfl) (xO F rfl (fun w l=>xL F rfl) fun a F=>qW 6 rfl (by kernel_rfl) (xO F rfl (fun w l=>xL F rfl) (fun a F=>?_))))));refine qW 7 rfl (by kernel_rfl) (xO F rfl (fun w l=>rY F rfl rfl T) fun a F=>qE 8 rfl (by kernel_rfl) (vC underlying32 sizeOf35 F rfl rfl rfl rfl h3 c4 fun a bc h5 F=>xE H 0 rfl (by kernel_rfl) (oR0 (R:=xU) underlying32 sizeOf35 F rfl H fun a w bd H F=>xJ ⟨⟨_,H⟩,?_⟩)));refine xE H 4 rfl (by kernel_rfl) (oPf (sz:=2) (R:=xU) (z:=(.agg #[xC 0,xC 0])) (bytes:=16) underlying32 (by kernel_rfl) rfl rfl F rfl rfl rfl H.lw (H.lw.a h4) c5 (fun a w be H F=>?_));have H:=H.tl;refine xJ ⟨⟨_,H⟩,?_⟩;refine xE H 9 rfl (by kernel_rfl) (oPf (sz:=2) (R:=xU) (z:=(.agg #[xC 0,xC 0])) (bytes:=16) underlying32 (by kernel_rfl) rfl rfl F rfl rfl rfl H.lw (H.lw.a h5) c6 (fun a w ae H F=>?_));have H:=H.tl;refine xJ ⟨⟨_,H⟩,?_⟩;refine qW 10 rfl (by kernel_rfl) (xO F rfl (fun w l=>vK F rfl) fun a F=>vZ (by kernel_rfl) (xG (xV (xA 2 F rfl fun a F=>?_))));obtain⟨z8,c7,d⟩:=xB d;refine oG F rfl call33 rfl (sG z8 c7 _ aA (xH.b (H.g 2 rfl).bk Z (H.a (e1 h1))) (xK.b (H.g 1 rfl).bk i2 (H.a (e1 h2))) (H.l 0 rfl) U) (fun a O w ⟨bf,S,i6⟩ F=>?_);subst O;have H:=H.r0 S;refine xA 5 F rfl fun a F=>xJ (xF (xV (xA 1 F rfl fun a F=>?_)));refine xA 1 F rfl fun a F=>xJ (qV F rfl (fun D=>?_) (fun D=>?_))
   ·
    replace d:=vX D d;refine xV (oR0 (R:=xU) underlying32 sizeOf35 F rfl H fun a w af H F=>xA 3 F rfl fun a F=>xJ (xR (oQ (vT ?_))));refine oQ ?_;replace d:=kD d n;refine vT (oQ ?_);replace d:=zZ d W;refine oQ ?_;have H:=(C.1 H (Ns.all ⟨n0,⟨n0,⟨n0,⟨n0,trivial⟩⟩⟩⟩));refine vJ F rfl (oE F rfl) (oE F rfl) ?_;obtain rfl:=oj d;exact⟨_,rfl,af,rfl,(H.s [1] rfl rfl),i6⟩
   replace d:=vW D d;refine xN (xG (xV (xA 1 F rfl fun a F=>xJ (qV F rfl (fun E=>?_) (fun E=>?_)))))
   ·
    replace d:=vX E d;refine xY (xA 2 F rfl fun a F=>qU (vH (xG ?_)));replace d:=vU d n;exact⟨t1,(by omega),z7,ae,f,d,F.su,((C.1 H (Ns.all ⟨n0,⟨n0,⟨n0,trivial⟩⟩⟩)).s [1,2,3] rfl rfl),i4⟩
   replace d:=vW E d;refine xY (xA 1 F rfl fun a F=>cX F rfl rfl rfl T fun a F=>xA 1 F rfl fun a F=>qU (vH (xG ?_)));replace d:=vU d n;exact⟨t1,(by omega),i,j,z4,d,F.su,(C.1 (H.s [1,2] rfl rfl) (Ns.all ⟨n0,⟨n0,trivial⟩⟩)),(kV T)⟩
  replace d:=vW A d;refine qJ (qM (qM ?_));replace d:=gV d n;refine zQ (xG ?_);exact⟨i,j,f,(zH d),F.su,(H.s [0] rfl rfl),i4⟩
 rintro a w ⟨P,p,Q,rfl,F,H,i7⟩
 have d:=xW W;refine xG (xV (xA 3 F rfl fun a F=>xJ (xR (vJ F rfl (oE F rfl) (oE F rfl) ?_))));obtain rfl:=oj d;exact⟨_,rfl,p,rfl,H,(show xS (0) by decide)⟩
def dW (c d:List Literal):Option Bool:=
 if ((c.length:Int) != (d.length:Int)) then
  some false
 else
  zR (σ:=Unit) (
   qT (σ:=Unit) (ρ:=Bool) (fun (h:Nat) (e:Literal) (s:Unit)=>
     match s with
     | _=>
     xZ (ix d (h:Int)) fun f=>
     if (!(e.var==f.var && e.value==f.value)) then
      some (.ret false)
     else
      some (.go ())) c 0 ()) fun _=>
  some true
theorem rP {B:Nat→Prop} {i E:List Literal} (r:Bool) (d:dW i E=some r) {n:Value} {p:Value} (f:World) (O:∀ c,B c→c<f.heap.size) (t:Bo B f (Sl 2 xU) n i) (G:Bo B f (Sl 2 xU) p E):Calls Tryz.prog 11 #[n,p] f (kL (.bool r) f):=by
 unfold dW at d
 refine xX (L:=[(0,n),(1,p)]) func11 rfl rfl rfl (sc rfl (sc rfl sn)) (fun a F=>?_);have H:=Sep.start O;refine xV (xA 1 F rfl fun a F=>xJ (xF (xV (xA 1 F rfl fun a F=>oL underlying32 F rfl rfl t fun a Y F=>xA 1 F rfl fun a F=>?_))));refine oL underlying32 F rfl rfl G fun a Z F=>xA 1 F rfl fun a F=>xJ (qV F rfl (fun x=>?_) (fun x=>?_))
 ·
  replace d:=vX x d;refine xV (xA 1 F rfl fun a F=>xJ (xR (oQ (xT F rfl (oE F rfl) ?_))));obtain rfl:=oj d;exact⟨rfl,H.bl⟩
 replace d:=vW x d;refine xN (xG (xF (xV (xA 1 F rfl fun a F=>xJ ?_))));obtain⟨I,d,C⟩:=xM d;refine oH (fun a w=>I= .nx ()∧Sk a 26 []∧Sep [] B f w []) ?_ ?_
 ·
  refine oJ ?_;obtain⟨M,K,d⟩:=qP d;refine qK (fun g a w=>∃ (j:Nat) (h:List Literal),(j≤i.length∧i.drop j=h)∧h.length=g∧qT M h j ()=some I∧Sk a 26 [(5,xC (j:Int)),(0,n),(1,p)]∧Sep [] B f w []) i.length ?_ ?_
  ·
   exact⟨0,i,⟨Nat.zero_le _,rfl⟩,rfl,d,F.su,H⟩
  intro g1 a w ⟨j,h,e,N,d,F,H⟩
  cases h with
  | nil=>
   replace d:=qO d;have P:=qQ e.1 e.2;have A:=vS P;refine xF (xV (xA 2 F rfl fun a F=>oL underlying32 F rfl rfl t fun a i3 F=>xA 1 F rfl fun a F=>xJ (zD F rfl A (qJ ?_))));refine qM (qM (zQ (xG ?_)));exact⟨(zH d),F.sub sn,H⟩
  | cons x2 h=>
   subst N;replace e:=oZ e.2;have Q:=qX e.2.1;obtain⟨X,d,D⟩:=qG d;rw[K] at d;have A:=vE e.1;refine xF (xV (xA 2 F rfl fun a F=>oL underlying32 F rfl rfl t fun a J F=>xA 1 F rfl fun a F=>xJ (zC F rfl A (xN ?_))));refine xG (xF ?_);have j1:=gP (Nat.le_of_lt e.1) J;have R:=zU e.1 J;refine oJ (xF (xQ H (by kernel_rfl) (by kernel_rfl) (xP F rfl (fun w l=>xL F rfl) fun a F=>xP F rfl (fun w l=>xL F rfl) fun a F=>qI underlying32 sizeOf35 F rfl rfl rfl t Q fun a p1 S F=>qlA isAgg35 sizeOf35 F rfl rfl H.q S fun a v2 T F=>xP F rfl (fun w l=>xL F rfl) fun a F=>xP F rfl (fun w l=>xL F rfl) (fun a F=>?_))));obtain⟨z1,U,d⟩:=xB d;refine qI underlying32 sizeOf35 F rfl rfl rfl G U fun a p2 V F=>qlA isAgg35 sizeOf35 F rfl rfl H.q V fun a v3 W F=>xP F rfl (fun w l=>xPe F rfl rfl T W) fun a F=>kZ fun w H=>xG (qV F rfl (fun y=>?_) (fun y=>?_))
   ·
    replace d:=vX y d;refine xV (xA 1 F rfl fun a F=>xJ (xR (vT (oQ (oQ ?_)))));replace d:=kD d D;refine vT (oQ ?_);replace d:=zZ d C;refine oQ (xT F rfl (oE F rfl) ?_);obtain rfl:=oj d;exact⟨rfl,H.bl⟩
   replace d:=vW y d;refine xN (vH (xG (xY (xA 1 F rfl fun a F=>vP F rfl rfl rfl R fun a F=>xA 1 F rfl fun a F=>xJ ?_))));replace d:=vU d D;exact⟨_,Nat.lt_succ_self _,j+1,h,⟨e.1,e.2.2⟩,rfl,d,F.su,H⟩
 rintro a w ⟨rfl,F,H⟩
 have d:=xW C;refine xG (xV (xA 1 F rfl fun a F=>xJ (xR (xT F rfl (oE F rfl) ?_))));obtain rfl:=oj d;exact⟨rfl,H.bl⟩
def cS (N:Nat) (c:Template) (d:Instance):Option (Int×Int):=
 xZ (eI (Template.mk c.size c.rels) (Instance.mk d.vars d.cons)) fun e=>
 if (!e) then
  some (0,1)
 else
  xZ (zE N (Template.mk c.size c.rels) (Instance.mk d.vars d.cons) 0 ([]) 0 ([])) fun f=>
  some (f.2,0)
theorem pK {B:Nat→Prop} {N:Nat} {p:Template} {t:Instance} (r:Int×Int) (d:cS N p t=some r) {h:Value} {i:Value} (e:World) (Q:∀ c,B c→c<e.heap.size) (T:Bo B e (kK 2 xH) h p) (U:Bo B e (kK 2 xK) i t):Calls Tryz.prog 14 #[h,i] e (Gv (fun v w'=>v= .tuple #[xC r.1,xC r.2]∧Sep [] B e w' []∧xS r.1∧xS r.2)):=by
 unfold cS at d
 refine xX (L:=[(0,h),(1,i)]) func14 rfl rfl rfl (sc rfl (sc rfl sn)) (fun a F=>?_);have H:=Sep.start Q;refine xV ?_;obtain⟨v2,rfl,y,A⟩:=xH.o T;refine oX F rfl rfl rfl H (fun a w C H F=>?_);obtain⟨a7,rfl,D,E⟩:=xK.o U;refine oX F rfl rfl rfl H fun a w G H F=>xA 2 F rfl fun a F=>xJ (xF (xV ?_));obtain⟨V,W,d⟩:=xB d;refine oK F rfl call23 rfl H (iU V W _ aA (xH.b (H.g 1 rfl).bk y (H.a A)) (xK.b (H.g 0 rfl).bk D (H.a E))) fun a w H F=>xA 1 F rfl fun a F=>xJ (qV F rfl (fun f=>?_) (fun f=>?_))
 ·
  replace d:=vX f d;refine xV (xA 2 F rfl fun a F=>xJ (xR (oQ (vJ F rfl (oE F rfl) (oE F rfl) ?_))));obtain rfl:=oj d;exact⟨_,rfl,rfl,(H.s [] rfl rfl),(show xS (0) by decide),(show xS (1) by decide)⟩
 replace d:=vW f d;refine xN (xG (xV (vY underlying89 zeroValue89 (fun w=>by simp [sizeOf2,sizeOf3,sizeOf38,sizeOf63,sizeOf64];rfl) F rfl rfl rfl rfl rfl (oc rfl (oc rfl on)) rfl rfl fun a F=>oX F rfl rfl rfl H fun a w I H F=>xA 1 F rfl fun a F=>vG ?_)));refine xA 1 F rfl fun a F=>oR0 (R:=xI) underlying41 sizeOf2 F rfl H (fun a w v3 H F=>?_);have H:=H.nl 1 (vQ 1 xI) 41;obtain⟨X,rfl⟩:∃ x,x=w:=⟨_,rfl⟩;have a8:=H.sm;obtain⟨Y,Z,j,J,H,O,a6⟩:=(H.s [4,3,1,0,2] rfl rfl).mg.mg.fza;have K1:=j.l.l.bk;have K2:=j.l.r.bk;have h3:=j.r.ld;obtain⟨n,c2,d⟩:=xB d;obtain⟨X2,K3,P⟩:=Sep.lend (K:=[bx I [oO C,oO G,xC 0,qD,xC 0] 89,rl 1 (vQ 1 xI) 41 qD ([])]) (L:=[]) (H.s [1,0] rfl rfl);refine oG F rfl call46 rfl (lE n c2 _ H.hN K3 (xH.b (K1.to H.sm) y (H.u (J A))) (xK.b (K2.to H.sm) D (H.u (J E))) (show xS 0 by decide) (show xS 0 by decide) (H.u h3)) (fun a vv w ⟨M,a9,S,i3⟩ F=>?_);subst vv;have H:Sep Y Z X w [bx I [oO C,oO G,xC 0,M,xC n.2] 89,rl 1 (vQ 1 xI) 41 M n.1]:=P S;refine vG (xA 1 F rfl fun a F=>vO F rfl rfl fun a F=>oD xGq F rfl rfl rfl fun a F=>oB isAgg2 F rfl rfl (H.b 0 rfl) rfl fun a F=>xA 2 F rfl fun a F=>qU ?_);refine xG (xR ?_);have H:=(O.1 H (Ns.all ⟨n0,⟨n0,trivial⟩⟩)).um.um;refine vJ F rfl (oE F rfl) (oE F rfl) ?_;obtain rfl:=oj d;exact⟨_,rfl,rfl,(H.s [] rfl rfl),i3,(show xS (0) by decide)⟩
def gG (c:Instance) (d:List Int):Option Instance:=
 zR (σ:=(List Con)) (
  qT (σ:=(List Con)) (ρ:=Instance) (fun (n:Nat) (e:Int) (f:(List Con))=>
   xZ (ix c.cons e) fun h=>
   xZ (ap f ([h])) fun i=>
   some (.go i)) d 0 []) fun j=>
 some ((Instance.mk c.vars j))
theorem yC {B:Nat→Prop} {f:Instance} {p:List Int} (r:Instance) (d:gG f p=some r) {C:Value} {D:Value} (h:World) (hN:∀ c,B c→c<h.heap.size) (I:Bo B h (Pt 2 xK) C f) (J:Bo B h (Sl 1 xI) D p):Calls Tryz.prog 56 #[C,D] h (Gv (fun v w'=>∃ (Q:Value),v= .agg #[xC r.vars,Q]∧Sep [] B h w' [rw B 2 oR 69 Q r.cons]∧xS r.vars)):=by
 unfold gG at d
 refine xX (L:=[(0,C),(1,D)]) func56 rfl rfl rfl (sc rfl (sc rfl sn)) (fun a F=>?_);have H:=Sep.start hN;refine xV (oA zeroValue29 F rfl rfl H fun a w t H F=>vG (xA 1 F rfl fun a F=>oN F rfl rfl I fun a F=>oF (s':=1) eE F rfl rfl I xK.f0 fun a p1 h1 F=>olI isAgg2 F rfl rfl H.sm h1 (fun a i1 F=>?_)));refine vY underlying29 zeroValue29 (fun w=>by simp [sizeOf2,sizeOf27];rfl) F rfl rfl rfl rfl rfl (oc rfl on) rfl rfl fun a F=>oA zeroValue29 F rfl rfl H fun a w x H F=>cN (vs:=[xC f.vars,qD]) sizeOf29 F rfl rfl rfl H (oc rfl (oc rfl on)) rfl rfl fun w H=>xJ (xF (xV (xA 1 F rfl fun a F=>xJ ?_)));obtain⟨S,d,W⟩:=xM d;refine oH (fun a w=>∃ (K:List Con) (A:Value),S= .nx K∧Sk a 34 [(4,oO t),(5,oO x)]∧Sep [] B h w [rw B 2 oR 69 A K,bx x [xC f.vars,A] 29,bx t [xC 0,qD] 29]) ?_ ?_
 ·
  refine oJ ?_;obtain⟨X,Y,d⟩:=qP d;refine qK (fun g a w=>∃ (i:Nat) (j:List Int) (E:List Con) (n:Value),(i≤p.length∧p.drop i=j)∧j.length=g∧qT X j i E=some S∧Sk a 34 [(6,xC (i:Int)),(0,C),(1,D),(4,oO t),(5,oO x)]∧Sep [] B h w [rw B 2 oR 69 n E,bx x [xC f.vars,n] 29,bx t [xC 0,qD] 29]) p.length ?_ ?_
  ·
   exact⟨0,p,[],qD,⟨Nat.zero_le _,rfl⟩,rfl,d,F.su,(H.nl 2 oR 69).lw.wk⟩
  intro g1 a w ⟨i,j,E,n,e,Z,d,F,H⟩
  cases j with
  | nil=>
   replace d:=qO d;have q1:=qQ e.1 e.2;have M:=vS q1;refine xF (xV (xA 2 F rfl fun a F=>oL underlying41 F rfl rfl J fun a i2 F=>xA 1 F rfl fun a F=>xJ (zD F rfl M (qJ ?_))));refine qM (qM (zQ (xG ?_)));exact⟨E,n,(zH d),F.su,H⟩
  | cons x2 j=>
   subst Z;replace e:=oZ e.2;have y1:=qX e.2.1;obtain⟨ai,d,a0⟩:=qG d;rw[Y] at d;have M:=vE e.1;refine xF (xV (xA 2 F rfl fun a F=>oL underlying41 F rfl rfl J fun a T F=>xA 1 F rfl fun a F=>xJ (zC F rfl M (xN ?_))));refine xG (xF ?_);have j1:=gP (Nat.le_of_lt e.1) T;have m1:=zU e.1 T;refine oJ ?_;obtain⟨N,c1,d⟩:=xB d;obtain⟨z2,c2,d⟩:=xB d;refine xD H (by kernel_rfl) fun w H=>dp (fun G=>∀ (O:Value) (a:Act) (w:World),Sk a 34 [(0,C),(1,D),(4,oO t),(5,oO x),(6,xC (i:Int)),(19,n),(30,O)]→Sep [] B h w [rw B 2 oR 69 O ([N]),rw B 2 oR 69 n E,bx x [xC f.vars,n] 29,bx t [xC 0,qD] 29]→∀ P,P = #[true,true,true,true,true,true,true,true,true,true,true,true,true,false,false,false]→G 3 P a w) ?_ (fun U=>?_)
   ·
    intro O a w F H P a1;subst a1;refine xE H 13 rfl (by kernel_rfl) (oP (sz:=2) (R:=oR) (z:=(.agg #[xC 0,qD])) (bytes:=32) underlying27 (by kernel_rfl) rfl rfl F rfl rfl rfl (H.s [1,0,2,3] rfl rfl) c2 fun a w v5 H F=>xJ ⟨⟨_,H⟩,?_⟩);refine qE 14 rfl (by kernel_rfl) (xO F rfl (fun w l=>oM zT F rfl rfl) fun a F=>xE H 15 rfl (by kernel_rfl) (oW sizeOf27 F rfl rfl rfl (H.s [1,0,2] rfl rfl) ((H.s [1,0,2] rfl rfl).r 1 rfl).one rfl rfl fun w H=>xJ ⟨⟨_,H⟩,?_⟩));refine vZ (by kernel_rfl) (vH (xG (xY (xA 1 F rfl fun a F=>vP F rfl rfl rfl m1 fun a F=>xA 1 F rfl fun a F=>xJ ?_))));replace d:=vU d a0;exact⟨_,Nat.lt_succ_self _,i+1,j,z2,v5,⟨e.1,e.2.2⟩,rfl,d,F.su,(H.s [1,0,2] rfl rfl)⟩
   refine qE 0 rfl (by kernel_rfl) (xO F rfl (fun w l=>oM zT F rfl rfl) fun a F=>qW 2 rfl (by kernel_rfl) (xO F rfl (fun w l=>xL F rfl) fun a F=>qE 3 rfl (by kernel_rfl) (vN F rfl rfl I fun a F=>qE 4 rfl (by kernel_rfl) (vF (s':=1) zT F rfl rfl I xK.f1 fun a p2 h2 F=>qE 5 rfl (by kernel_rfl) (vlS isAgg27 F rfl rfl H.v h2 fun a v6 h3 F=>qW 6 rfl (by kernel_rfl) ?_)))));refine xO F rfl (fun w l=>xL F rfl) fun a F=>qW 7 rfl (by kernel_rfl) (xO F rfl (fun w l=>xL F rfl) fun a F=>qE 8 rfl (by kernel_rfl) (vI underlying41 sizeOf2 F rfl rfl rfl J y1 fun a p3 h4 F=>qE 9 rfl (by kernel_rfl) (vlI isAgg2 F rfl rfl H.v h4 fun a i4 F=>qE 10 rfl (by kernel_rfl) (vI underlying27 sizeOf69 F rfl rfl rfl h3 c1 fun a p4 h5 F=>qE 11 rfl (by kernel_rfl) (vlA isAgg69 sizeOf69 F rfl rfl H.v h5 (fun a v7 V F=>?_))))));refine kP [1,12] (by kernel_rfl) (by simp) ⟨⟨_,rfl,?_⟩,⟨_,rfl,?_⟩,trivial⟩
   ·
    refine kJ H (oB isAgg27 F rfl rfl (H.b 1 rfl) rfl fun a F=>xJ ⟨⟨_,H⟩,?_⟩);refine xE H 12 rfl (by kernel_rfl) (oR1 (R:=oR) (y:=N) (N1:=B) underlying27 sizeOf69 zeroValue69 rfl rfl F rfl rfl H n1 (Eo.agg (H.u V)) fun a w v8 H F=>xJ ⟨⟨_,H⟩,?_⟩);exact U v8 _ _ (F.su) H _ (by kernel_rfl)
   refine kJ H (oR1 (R:=oR) (y:=N) (N1:=B) underlying27 sizeOf69 zeroValue69 rfl rfl F rfl rfl H n1 (Eo.agg (H.u V)) fun a w v9 H F=>xJ ⟨⟨_,H⟩,?_⟩);refine xE H 1 rfl (by kernel_rfl) (oB isAgg27 F rfl rfl (H.b 2 rfl) rfl fun a F=>xJ ⟨⟨_,H⟩,?_⟩);exact U v9 _ _ (F.su) H _ (by kernel_rfl)
 rintro a w ⟨K,A,rfl,F,H⟩
 have d:=xW W;refine xG (xV (dJ isAgg29 sizeOf29 F rfl rfl (H.b 1 rfl) rfl rfl fun a F=>cN (vs:=[xC f.vars,A]) sizeOf29 F rfl rfl rfl (H.s [2,0,1] rfl rfl) (oc rfl (oc ((H.s [2,0,1] rfl rfl).r 1 rfl).one on)) rfl rfl fun w H=>xJ (xR (xT F rfl (kF (arr:=#[xC f.vars,A]) F isAgg29 sizeOf29 rfl (H.b 0 rfl)) ?_))));obtain rfl:=oj d;exact⟨_,rfl,A,rfl,(H.s [1] rfl rfl),i1⟩
def cO (N:Nat) (c:Template) (d:Instance) (j:Int):Option ((List Int)×Int):=
 xZ (eS (Template.mk c.size c.rels) (Instance.mk d.vars d.cons) j) fun p=>
 if (p != 0) then
  some ([],p)
 else
  xZ (aQ (Template.mk c.size c.rels) (Instance.mk d.vars d.cons)) fun A=>
  xZ (dO N (Template.mk c.size c.rels) (Instance.mk d.vars d.cons) A j) fun n=>
  if (n.2.1==7) then
   some ([],n.2.1)
  else
   if (n.2.1==0) then
    some ([],4)
   else
    xZ (aL (d.cons.length:Int)) fun B=>
    zR (σ:=(List Int)×Int) (
     fA (σ:=(List Int)×Int) (ρ:=(List Int)×Int) (fun(s:(List Int)×Int)=>
       match s with
       | (e,f)=>
       if (decide (f<(e.length:Int))) then
        xZ (sl e 0 f) fun C=>
        xZ (ck (f+1)) fun t=>
        xZ (sl e t (e.length:Int)) fun D=>
        xZ (ap ([]) C) fun E=>
        xZ (ap E D) fun x=>
        xZ (gG (Instance.mk d.vars d.cons) x) fun h=>
        xZ (aQ (Template.mk c.size c.rels) (Instance.mk h.vars h.cons)) fun y=>
        xZ (dO N (Template.mk c.size c.rels) (Instance.mk h.vars h.cons) y j) fun i=>
        if (i.2.1==7) then
         some (.ret ([],i.2.1))
        else
         if (i.2.1==6) then
          some (.go (x,f))
         else
          some (.go (e,t))
       else
        some (.brk (e,f))) N (B,0)) fun(F,G)=>
    some (F,0)
theorem pF {B:Nat→Prop} {N:Nat} {x0:Template} {x1:Instance} {y:Int} (r:(List Int)×Int) (d:cO N x0 x1 y=some r) {v0:Value} {v1:Value} (A:World) (hN:∀ c,B c→c<A.heap.size) (A0:Bo B A (kK 2 xH) v0 x0) (A1:Bo B A (kK 2 xK) v1 x1) (P:xS y):Calls Tryz.prog 17 #[v0,v1,xC y] A (Gv (fun v w'=>∃ (aa:Value),v= .tuple #[aa,xC r.2]∧Sep [] B A w' [rl 1 xI 2 aa r.1]∧xS r.2)):=by
 unfold cO at d
 refine xX (L:=[(0,v0),(1,v1),(2,xC y)]) func17 rfl rfl rfl (sc rfl (sc rfl (sc rfl sn))) (fun a F=>?_);have H:=Sep.start hN;refine xV ?_;obtain⟨v2,rfl,C,D⟩:=xH.o A0;refine oX F rfl rfl rfl H (fun a w b1 H F=>?_);obtain⟨cq,rfl,O,E⟩:=xK.o A1;refine oX F rfl rfl rfl H fun a w b2 H F=>xA 2 F rfl fun a F=>xJ (xF (xV (xA 1 F rfl fun a F=>?_)));obtain⟨z1,c1,d⟩:=xB d;refine oKI F rfl call52 rfl H (nE z1 c1 _ aA (xH.b (H.g 1 rfl).bk C (H.a D)) (xK.b (H.g 0 rfl).bk O (H.a E)) P) fun a w H iz1 F=>xA 1 F rfl fun a F=>vG (xA 2 F rfl fun a F=>xJ (qV F rfl (fun Q=>?_) (fun Q=>?_)))
 ·
  replace d:=vX Q d;refine xV (oR0 (R:=xI) underlying41 sizeOf2 F rfl H fun a w v3 H F=>xA 3 F rfl fun a F=>xJ (xR (oQ (vJ F rfl (oE F rfl) (oE F rfl) ?_))));obtain rfl:=oj d;exact⟨_,rfl,v3,rfl,(H.s [0] rfl rfl),iz1⟩
 replace d:=vW Q d;refine xN (xG (xV ?_));obtain⟨z2,c2,d⟩:=xB d;refine oG F rfl call54 rfl (lT z2 c2 _ aA (xH.b (H.g 1 rfl).bk C (H.a D)) (xK.b (H.g 0 rfl).bk O (H.a E))) (fun a e w ⟨v4,cr,S⟩ F=>?_);subst e;have H:=H.r1 S n0;refine xA 1 F rfl fun a F=>?_;obtain⟨w1,rfl⟩:∃ x,x=w:=⟨_,rfl⟩;have cs:=H.sm;obtain⟨X1,N1,g1,p,H,I,ct⟩:=(H.s [2,1,0] rfl rfl).mg.fza;have K1:=g1.l.bk;have K2:=g1.r.bk;obtain⟨h,c3,d⟩:=xB d;have H:=H.lw;obtain⟨X2,K3,bk1⟩:=Sep.lend (K:=[rw N0 1 (vQ 1 xI) 41 v4 z2]) (L:=[]) H;refine oG F rfl call53 rfl (mX h c3 _ H.hN K3 (xH.b (K1.to H.sm) C (H.u (p D))) (xK.b (K2.to H.sm) O (H.u (p E))) P) (fun a e w ⟨b3,v5,v6,v7,v8,cu,S,h3,h4,i3,i4,i5⟩ F=>?_);subst e;have h3:=H.dn h3;have h4:=H.dn h4;have H:Sep X1 N1 w1 w [bx b3 [v5,v6,xC h.1.2.2.1,xC h.1.2.2.2.1,v7,v8,.bool h.1.2.2.2.2.2.2] 148,rl 4 qY 95 v7 h.1.2.2.2.2.1,rl 1 xI 2 v8 h.1.2.2.2.2.2.1,rw N0 1 (vQ 1 xI) 41 v4 h.2.2]:=bk1 S;refine xA 5 F rfl fun a F=>xJ (xF (xV (xA 1 F rfl fun a F=>?_)));refine xA 1 F rfl fun a F=>xJ (qV F rfl (fun T=>?_) (fun T=>?_))
 ·
  replace d:=vX T d;refine xV (oR0 (R:=xI) underlying41 sizeOf2 F rfl H fun a w v9 H F=>xA 3 F rfl fun a F=>xJ (xR (oQ ?_)));have H:=(I.1 H (Ns.all ⟨n0,⟨n0,⟨n0,⟨n0,⟨n0,trivial⟩⟩⟩⟩⟩)).um;refine vJ F rfl (oE F rfl) (oE F rfl) ?_;obtain rfl:=oj d;exact⟨_,rfl,v9,rfl,(H.s [2] rfl rfl),i5⟩
 replace d:=vW T d;refine xN (xG (xF (xV (xA 2 F rfl fun a F=>xJ (qV F rfl (fun U=>?_) (fun U=>?_))))))
 ·
  replace d:=vX U d;refine xV (oR0 (R:=xI) underlying41 sizeOf2 F rfl H fun a w v10 H F=>xA 2 F rfl fun a F=>xJ (xR (oQ ?_)));have H:=(I.1 H (Ns.all ⟨n0,⟨n0,⟨n0,⟨n0,⟨n0,trivial⟩⟩⟩⟩⟩)).um;refine vJ F rfl (oE F rfl) (oE F rfl) ?_;obtain rfl:=oj d;exact⟨_,rfl,v10,rfl,(H.s [2] rfl rfl),(show xS (4) by decide)⟩
 replace d:=vW U d;refine xN (xG (xV (oD zT F rfl rfl rfl fun a F=>oB isAgg27 F rfl rfl (K2.o H.sm) rfl fun a F=>oL underlying27 F rfl rfl E (fun a i64 F=>?_))));obtain⟨z4,c4,d⟩:=xB d;refine oG F rfl call55 rfl (pB z4 c4 _ aA i64) (fun a e w ⟨b6,cx,S⟩ F=>?_);subst e;have H:=H.r1 S n0;refine xA 1 F rfl fun a F=>xJ (xF (xV (xA 1 F rfl fun a F=>xJ ?_)));obtain⟨o1,d,ab⟩:=xM d;refine oH (fun a w=>∃ (s1:List Int) (J:Value) (s2:Int),o1= .nx (s1,s2)∧Sk a 72 [(11,J)]∧Sep X1 N1 w1 w [rl 1 xI 2 J s1]∧xS s2) ?_ ?_
 ·
  refine oJ ?_;obtain⟨b7,b8,d⟩:=bJ d;refine qK (fun g a w=>∃ (G:List Int) (t:Value) (i:Int),fA b7 g (G,i)=some o1∧Sk a 72 [(2,xC y),(3,oO b1),(4,oO b2),(11,t),(12,xC i)]∧Sep X1 N1 w1 w [rl 1 xI 2 t G]∧xS i) N ?_ ?_
  ·
   exact⟨z4,b6,0,d,F.su,(H.s [0] rfl rfl),(show xS (0) by decide)⟩
  intro g2 a w ⟨G,t,i,d,F,H,i6⟩;obtain⟨cy,t1,cz,d,M⟩:=kR d;rw[b8] at d;refine xF (xV (xA 2 F rfl fun a F=>oL underlying41 F rfl rfl (H.l 0 rfl) fun a i7 F=>xA 1 F rfl fun a F=>xJ (qV F rfl (fun V=>?_) (fun V=>?_))))
  ·
   replace d:=vX V d;refine xN (xG (oJ (xF ?_)));obtain⟨z5,c5,d⟩:=xB d;obtain⟨z6,c6,d⟩:=xB d;obtain⟨z7,c7,d⟩:=xB d;obtain⟨z8,c8,d⟩:=xB d;obtain⟨z9,c9,d⟩:=xB d;obtain⟨w2,rfl⟩:∃ x,x=w:=⟨_,rfl⟩;have d0:=H.sm;obtain⟨X3,N2,g3,j,H,W,d1⟩:=H.fza;have h5:=g3.ld;refine xD H (by kernel_rfl) fun w H=>qW 1 rfl (by kernel_rfl) (xO F rfl (fun w l=>xL F rfl) fun a F=>qW 2 rfl (by kernel_rfl) (xO F rfl (fun w l=>xL F rfl) fun a F=>qE 3 rfl (by kernel_rfl) (vC underlying41 sizeOf2 F rfl rfl rfl rfl h5 c5 fun a d2 h6 F=>qW 5 rfl (by kernel_rfl) (xO F rfl (fun w l=>xL F rfl) fun a F=>qW 6 rfl (by kernel_rfl) (xO F rfl (fun w l=>xL F rfl) (fun a F=>?_))))));refine qW 7 rfl (by kernel_rfl) (xO F rfl (fun w l=>rY F rfl rfl c6) fun a F=>qE 8 rfl (by kernel_rfl) (vC underlying41 sizeOf2 F rfl rfl rfl rfl h5 c7 fun a d3 h7 F=>xE H 0 rfl (by kernel_rfl) (oR0 (R:=xI) underlying41 sizeOf2 F rfl H fun a w d4 H F=>xJ ⟨⟨_,H⟩,?_⟩)));refine xE H 4 rfl (by kernel_rfl) (oPf (sz:=1) (R:=xI) (z:=(xC 0)) (bytes:=8) underlying41 (by kernel_rfl) rfl rfl F rfl rfl rfl H.lw (H.lw.a h6) c8 (fun a w d5 H F=>?_));have H:=H.tl;refine xJ ⟨⟨_,H⟩,?_⟩;refine xE H 9 rfl (by kernel_rfl) (oPf (sz:=1) (R:=xI) (z:=(xC 0)) (bytes:=8) underlying41 (by kernel_rfl) rfl rfl F rfl rfl rfl H.lw (H.lw.a h7) c9 (fun a w b9 H F=>?_));have H:=H.tl;refine xJ ⟨⟨_,H⟩,?_⟩;refine qW 10 rfl (by kernel_rfl) (xO F rfl (fun w l=>vK F rfl) fun a F=>vZ (by kernel_rfl) (xG (xV (xA 1 F rfl fun a F=>?_))));obtain⟨w3,rfl⟩:∃ x,x=w:=⟨_,rfl⟩;have d6:=H.sm;obtain⟨X4,N3,g4,n,H,X,d7⟩:=H.fza;have h8:=g4.ld;obtain⟨ac,ba,d⟩:=xB d;refine oG F rfl call56 rfl (yC ac ba _ H.hN (xK.b (((K2.lf j).lf n).to H.sm) O (H.u (n (j (p E))))) (H.u h8)) (fun a e w ⟨bb,d8,S,i8⟩ F=>?_);subst e;have H:=H.r1 S n1;refine oA zeroValue29 F rfl rfl H fun a w b4 H F=>cN (vs:=[xC ac.vars,bb]) sizeOf29 F rfl rfl rfl H (oc rfl (oc (H.r 1 rfl).one on)) rfl rfl fun w H=>vG ?_;obtain⟨ad,bc,d⟩:=xB d;refine oG F rfl call54 rfl (lT ad bc _ aA (xH.b (Bk.of (((K1.lf j).lf n).o H.sm)) C (H.a (n (j (p D))))) (xK.b (H.g 0 rfl).bk i8 (H.r 1 rfl))) (fun a e w ⟨ae,d9,S⟩ F=>?_);subst e;have H:=H.r1 S n0;refine xA 1 F rfl fun a F=>?_;obtain⟨w4,rfl⟩:∃ x,x=w:=⟨_,rfl⟩;have da:=H.sm;obtain⟨X5,N4,g5,e3,H,Y,db⟩:=(H.s [1,2,0] rfl rfl).mg.fza;have K4:=g5.l.bk;have h9:=g5.r.rd;obtain⟨f,bd,d⟩:=xB d;have H:=H.lw;obtain⟨X6,K5,be⟩:=Sep.lend (K:=[rw N0 1 (vQ 1 xI) 41 ae ad]) (L:=[]) H;refine oG F rfl call53 rfl (mX f bd _ H.hN K5 (xH.b ((((K1.lf j).lf n).lf e3).to H.sm) C (H.u (e3 (n (j (p D)))))) (xK.b (K4.to H.sm) i8 (H.u h9)) P) (fun a e w ⟨b5,bf,bg,af,ag,dc,S,ah,ai,i9,dd,bh⟩ F=>?_);subst e;have ah:=H.dn ah;have ai:=H.dn ai;have H:Sep X5 N4 w4 w [bx b5 [bf,bg,xC f.1.2.2.1,xC f.1.2.2.2.1,af,ag,.bool f.1.2.2.2.2.2.2] 148,rl 4 qY 95 af f.1.2.2.2.2.1,rl 1 xI 2 ag f.1.2.2.2.2.2.1,rw N0 1 (vQ 1 xI) 41 ae f.2.2]:=be S;refine xA 5 F rfl fun a F=>xJ (xF (xV (xA 1 F rfl fun a F=>?_)))
   refine xA 1 F rfl fun a F=>xJ (qV F rfl (fun Z=>?_) (fun Z=>?_))
   ·
    replace d:=vX Z d;refine xV (oR0 (R:=xI) underlying41 sizeOf2 F rfl H fun a w bi H F=>xA 3 F rfl fun a F=>xJ (xR (oQ (vT ?_))));refine oQ ?_;replace d:=kD d M;refine vT (oQ ?_);replace d:=zZ d ab;refine oQ ?_;have H:=(I.1 (W.1 (X.1 ((Y.1 H (Ns.all ⟨n0,⟨n0,⟨n0,⟨n0,⟨n0,trivial⟩⟩⟩⟩⟩)).um.s [0,2,3,4,5,6] rfl rfl) (Ns.all ⟨n0,⟨n0,⟨n0,⟨n0,⟨n0,⟨n0,trivial⟩⟩⟩⟩⟩⟩)) (Ns.all ⟨n0,⟨n0,⟨n0,⟨n0,⟨n0,⟨n0,⟨n0,trivial⟩⟩⟩⟩⟩⟩⟩)) (Ns.all ⟨n0,⟨n0,⟨n0,⟨n0,⟨n0,⟨n0,⟨n0,⟨n0,trivial⟩⟩⟩⟩⟩⟩⟩⟩)).um;refine vJ F rfl (oE F rfl) (oE F rfl) ?_;obtain rfl:=oj d;exact⟨_,rfl,bi,rfl,(H.s [5] rfl rfl),bh⟩
   replace d:=vW Z d;refine xN (xG (xV (xA 2 F rfl fun a F=>xJ (qV F rfl (fun a0=>?_) (fun a0=>?_)))))
   ·
    replace d:=vX a0 d;refine xY (xA 2 F rfl fun a F=>qU (vH (xG ?_)));replace d:=vU d M;exact⟨t1,(by omega),z9,b9,i,d,F.su,((W.1 (X.1 ((Y.1 (H.s [] rfl rfl) (Ns.all trivial)).um.s [0] rfl rfl) (Ns.all ⟨n0,trivial⟩)) (Ns.all ⟨n0,⟨n0,trivial⟩⟩)).s [1] rfl rfl),i6⟩
   replace d:=vW a0 d;refine xY (xA 1 F rfl fun a F=>cX F rfl rfl rfl c6 fun a F=>xA 1 F rfl fun a F=>qU (vH (xG ?_)));replace d:=vU d M;exact⟨t1,(by omega),G,t,z6,d,F.su,((W.1 (X.1 ((Y.1 (H.s [] rfl rfl) (Ns.all trivial)).um.s [0] rfl rfl) (Ns.all ⟨n0,trivial⟩)) (Ns.all ⟨n0,⟨n0,trivial⟩⟩)).s [0] rfl rfl),(kV c6)⟩
  replace d:=vW V d;refine qJ (qM (qM ?_));replace d:=gV d M;refine zQ (xG ?_);exact⟨G,t,i,(zH d),F.su,H,i6⟩
 rintro a w ⟨s1,J,s2,rfl,F,H,de⟩
 have d:=xW ab;refine xG (xV (xA 3 F rfl fun a F=>xJ (xR ?_)));have H:=(I.1 H (Ns.all ⟨n0,trivial⟩)).um;refine vJ F rfl (oE F rfl) (oE F rfl) ?_;obtain rfl:=oj d;exact⟨_,rfl,J,rfl,(H.s [2] rfl rfl),(show xS (0) by decide)⟩
def eW (c d:List Int):Option Bool:=
 xZ (fG c d) fun e=>
 some e
theorem sQ {B:Nat→Prop} {i j:List Int} (r:Bool) (e:eW i j=some r) {f:Value} {h:Value} (d:World) (n:∀ c,B c→c<d.heap.size) (p:Bo B d (Sl 1 xI) f i) (t:Bo B d (Sl 1 xI) h j):Calls Tryz.prog 18 #[f,h] d (kL (.bool r) d):=by
 unfold eW at e
 refine xX (L:=[(0,f),(1,h)]) func18 rfl rfl rfl (sc rfl (sc rfl sn)) (fun a F=>?_);have H:=Sep.start n;refine xV (xA 1 F rfl fun a F=>vG (xA 2 F rfl fun a F=>?_));obtain⟨x,y,e⟩:=xB e;refine oK F rfl call57 rfl H (pM x y _ aA (H.a p) (H.a t)) fun a w H F=>xA 1 F rfl fun a F=>xJ (xR (xT F rfl (oE F rfl) ?_));obtain rfl:=oj e;exact⟨rfl,H.bl⟩
def gU (c:List Int) (f h:Int):Option Bool:=
 zR (σ:=Unit) (
  qT (σ:=Unit) (ρ:=Bool) (fun (d:Nat) (e:Int) (s:Unit)=>
    match s with
    | _=>
    zR (σ:=Bool) (
     xZ (bP e f h) fun i=>
     if (!i) then  some (.nx true) else  if (decide (0<(d:Int))) then  xZ (ck ((d:Int) - 1)) fun j=>
       xZ (ix c j) fun n=>
       some (.nx (decide (e≤n))) else  some (.nx false)) fun p=>
    if p then
     some (.ret false)
    else
     some (.go ())) c 0 ()) fun _=>
 some true
theorem uZ {B:Nat→Prop} {n:List Int} {p t:Int} (r:Bool) (d:gU n p t=some r) {A:Value} (i:World) (U:∀ c,B c→c<i.heap.size) (C:Bo B i (Sl 1 xI) A n) (O:xS p) (P:xS t):Calls Tryz.prog 58 #[A,xC p,xC t] i (kL (.bool r) i):=by
 unfold gU at d
 refine xX (L:=[(0,A),(1,xC p),(2,xC t)]) func58 rfl rfl rfl (sc rfl (sc rfl (sc rfl sn))) (fun a F=>?_);have H:=Sep.start U;refine xV (xA 1 F rfl fun a F=>xJ (xF (xV (xA 1 F rfl fun a F=>xJ ?_))));obtain⟨K,d,I⟩:=xM d;refine oH (fun a w=>K= .nx ()∧Sk a 38 []∧Sep [] B i w []) ?_ ?_
 ·
  refine oJ ?_;obtain⟨Q,R,d⟩:=qP d;refine qK (fun g a w=>∃ (f:Nat) (j:List Int),(f≤n.length∧n.drop f=j)∧j.length=g∧qT Q j f ()=some K∧Sk a 38 [(7,xC (f:Int)),(0,A),(1,xC p),(2,xC t)]∧Sep [] B i w []) n.length ?_ ?_
  ·
   exact⟨0,n,⟨Nat.zero_le _,rfl⟩,rfl,d,F.su,H⟩
  intro g1 a w ⟨f,j,e,S,d,F,H⟩
  cases j with
  | nil=>
   replace d:=qO d;have V:=qQ e.1 e.2;have E:=vS V;refine xF (xV (xA 2 F rfl fun a F=>oL underlying41 F rfl rfl C fun a i1 F=>xA 1 F rfl fun a F=>xJ (zD F rfl E (qJ ?_))));refine qM (qM (zQ (xG ?_)));exact⟨(zH d),F.sub sn,H⟩
  | cons W j=>
   subst S;replace e:=oZ e.2;have M:=qX e.2.1;obtain⟨a7,d,J⟩:=qG d;rw[R] at d;have E:=vE e.1;refine xF (xV (xA 2 F rfl fun a F=>oL underlying41 F rfl rfl C fun a i64 F=>xA 1 F rfl fun a F=>xJ (zC F rfl E (xN ?_))));refine xG (xF ?_);have j1:=gP (Nat.le_of_lt e.1) i64;have X:=zU e.1 i64;refine oJ (xF ?_);obtain⟨Y,d,T⟩:=xM d;refine oH (fun a w=>∃ (G:Bool),Y= .nx G∧Sk a 38 [(0,A),(1,xC p),(2,xC t),(7,xC (f:Int)),(37,.bool G)]∧Sep [] B i w []) ?_ ?_
   ·
    refine xQ H (by kernel_rfl) (by kernel_rfl) (xP F rfl (fun w l=>xL F rfl) fun a F=>xP F rfl (fun w l=>xL F rfl) fun a F=>qI underlying41 sizeOf2 F rfl rfl rfl C M fun a p1 Z F=>qlI isAgg2 F rfl rfl H.q Z fun a i2 F=>xP F rfl (fun w l=>xL F rfl) fun a F=>xP F rfl (fun w l=>xL F rfl) (fun a F=>?_));obtain⟨N,c1,d⟩:=xB d;refine fX F rfl call65 rfl (fun w w' h l=>l.through h) (fun w l=>bU N c1 w aA i2 O P) fun a F=>xP F rfl (fun w l=>lD F rfl) fun a F=>xP F rfl (fun w l=>xL F rfl) (fun a F=>?_)
    rcases vR (!N) with x | x
    ·
     replace d:=vX x d;have F:=F.eb 22 rfl x;refine qR F rfl rfl fun a F=>qR F rfl rfl fun a F=>qR F rfl rfl fun a F=>qR F rfl rfl fun a F=>qR F rfl rfl fun a F=>qR F rfl rfl fun a F=>qR F rfl rfl fun a F=>qR F rfl rfl fun a F=>qR F rfl rfl fun a F=>qR F rfl rfl fun a F=>qR F rfl rfl (fun a F=>?_);refine qR F rfl rfl fun a F=>qR F rfl rfl fun a F=>qR F rfl rfl fun a F=>xP F rfl (fun w l=>cD F rfl rfl) fun a F=>kZ fun w H=>xG ?_;exact⟨true,(zH d),F.su,H⟩
    replace d:=vW x d;have F:=F.eb 22 rfl x;refine xP F rfl (fun w l=>xL F rfl) fun a F=>xP F rfl (fun w l=>wZ F rfl rfl) fun a F=>xP F rfl (fun w l=>xL F rfl) (fun a F=>?_)
    rcases vR (decide (0<(f:Int))) with y | y
    ·
     replace d:=vX y d;have F:=F.eb 25 rfl y;refine xP F rfl (fun w l=>xL F rfl) fun a F=>xP F rfl (fun w l=>xL F rfl) (fun a F=>?_);obtain⟨z2,c2,d⟩:=xB d;refine xP F rfl (fun w l=>rC F rfl rfl c2) (fun a F=>?_);obtain⟨z3,c3,d⟩:=xB d;refine qI underlying41 sizeOf2 F rfl rfl rfl C c3 fun a p2 h2 F=>qlI isAgg2 F rfl rfl H.q h2 fun a i3 F=>xP F rfl (fun w l=>xL F rfl) fun a F=>xP F rfl (fun w l=>xL F rfl) fun a F=>qI underlying41 sizeOf2 F rfl rfl rfl C M fun a p3 h3 F=>qlI isAgg2 F rfl rfl H.q h3 fun a i4 F=>xP F rfl (fun w l=>xKn F rfl rfl) fun a F=>xP F rfl (fun w l=>cD F rfl rfl) fun a F=>xP F rfl (fun w l=>cG F rfl rfl) fun a F=>kZ fun w H=>xG ?_;exact⟨(decide (W≤z3)),(zH d),F.su,H⟩
    replace d:=vW y d;have F:=F.eb 25 rfl y;refine qR F rfl rfl fun a F=>qR F rfl rfl fun a F=>qR F rfl rfl fun a F=>qR F rfl rfl fun a F=>qR F rfl rfl fun a F=>qR F rfl rfl fun a F=>qR F rfl rfl fun a F=>qR F rfl rfl fun a F=>qR F rfl rfl fun a F=>qR F rfl rfl fun a F=>xP F rfl (fun w l=>cG F rfl rfl) (fun a F=>?_);refine xP F rfl (fun w l=>cG F rfl rfl) fun a F=>kZ fun w H=>xG ?_;exact⟨false,(zH d),F.su,H⟩
   rintro a w ⟨G,rfl,F,H⟩
   have d:=xW T;refine xG (qV F rfl (fun D=>?_) (fun D=>?_))
   ·
    replace d:=vX D d;refine xV (xA 1 F rfl fun a F=>xJ (xR (vT (oQ (oQ ?_)))));replace d:=kD d J;refine vT (oQ ?_);replace d:=zZ d I;refine oQ (xT F rfl (oE F rfl) ?_);obtain rfl:=oj d;exact⟨rfl,H.bl⟩
   replace d:=vW D d;refine xN (vH (xG (xY (xA 1 F rfl fun a F=>vP F rfl rfl rfl X fun a F=>xA 1 F rfl fun a F=>xJ ?_))));replace d:=vU d J;exact⟨_,Nat.lt_succ_self _,f+1,j,⟨e.1,e.2.2⟩,rfl,d,F.su,H⟩
 rintro a w ⟨rfl,F,H⟩
 have d:=xW I;refine xG (xV (xA 1 F rfl fun a F=>xJ (xR (xT F rfl (oE F rfl) ?_))));obtain rfl:=oj d;exact⟨rfl,H.bl⟩
def aK (d:Template) (c:Instance) (e:List Int):Option (Instance×Int):=
 xZ (eI (Template.mk d.size d.rels) (Instance.mk c.vars c.cons)) fun h=>
 if (!h) then
  some ((Instance.mk 0 ([])),1)
 else
  xZ (ck ((c.cons.length:Int) - 1)) fun i=>
  xZ (gU e 0 i) fun j=>
  if (!j) then
   some ((Instance.mk 0 ([])),2)
  else
   zR (σ:=(List Con)) (
    qT (σ:=(List Con)) (ρ:=Instance×Int) (fun (A:Nat) (n:Int) (p:(List Con))=>
     xZ (ix c.cons n) fun f=>
     xZ (cV f.scope) fun t=>
     xZ (ap p ([(Con.mk f.rel t)])) fun x=>
     some (.go x)) e 0 []) fun y=>
   some ((Instance.mk c.vars y),0)
theorem eQ {B:Nat→Prop} {x0:Template} {e:Instance} {J:List Int} (r:Instance×Int) (d:aK x0 e J=some r) {W:Value} {X:Value} {A:Value} (h:World) (hN:∀ c,B c→c<h.heap.size) (A0:Bo B h (kK 2 xH) W x0) (A1:Bo B h (kK 2 xK) X e) (P:Bo B h (Sl 1 xI) A J):Calls Tryz.prog 19 #[W,X,A] h (Gv (fun v w'=>∃ (a4:Value),v= .tuple #[.agg #[xC r.1.vars,a4],xC r.2]∧Sep [] B h w' [rl 2 oR 69 a4 r.1.cons]∧xS r.1.vars∧xS r.2)):=by
 unfold aK at d
 refine xX (L:=[(0,W),(1,X),(2,A)]) func19 rfl rfl rfl (sc rfl (sc rfl (sc rfl sn))) (fun a F=>?_);have H:=Sep.start hN;refine xV ?_;obtain⟨v3,rfl,i1,h1⟩:=xH.o A0;refine oX F rfl rfl rfl H (fun a w b1 H F=>?_);obtain⟨N,rfl,i2,Y⟩:=xK.o A1;refine oX F rfl rfl rfl H fun a w x H F=>oA zeroValue29 F rfl rfl H fun a w n H F=>xA 1 F rfl fun a F=>xJ (xF (xV ?_));obtain⟨z1,c1,d⟩:=xB d;refine oK F rfl call23 rfl H (iU z1 c1 _ aA (xH.b (H.g 2 rfl).bk i1 (H.a h1)) (xK.b (H.g 1 rfl).bk i2 (H.a Y))) fun a w H F=>xA 1 F rfl fun a F=>xJ (qV F rfl (fun U=>?_) (fun U=>?_))
 ·
  replace d:=vX U d;refine xV (vY underlying29 zeroValue29 (fun w=>by simp [sizeOf2,sizeOf27];rfl) F rfl rfl rfl rfl rfl on rfl rfl fun a F=>cN (vs:=[xC 0,qD]) sizeOf29 F rfl rfl rfl H (oc rfl (oc rfl on)) rfl rfl fun w H=>xA 1 F rfl fun a F=>xJ (xR (oQ (vJ F rfl (kF (arr:=#[xC 0,qD]) F isAgg29 sizeOf29 rfl (H.b 0 rfl)) (oE F rfl) ?_))));obtain rfl:=oj d;exact⟨_,rfl,qD,rfl,((H.nl 2 oR 69).s [0] rfl rfl),(show xS 0 by decide),(show xS (1) by decide)⟩
 replace d:=vW U d;refine xN (xG (xF (xV (xA 1 F rfl fun a F=>oD zT F rfl rfl rfl fun a F=>oB isAgg27 F rfl rfl (H.b 1 rfl) rfl fun a F=>oL underlying27 F rfl rfl Y (fun a i3 F=>?_)))));obtain⟨z2,c2,d⟩:=xB d;refine gM F rfl rfl rfl c2 (fun a F=>?_);obtain⟨z3,c3,d⟩:=xB d;refine oK F rfl call58 rfl H (uZ z3 c3 _ aA (H.a P) (show xS (0) by decide) (kV c2)) fun a w H F=>xA 1 F rfl fun a F=>xJ (qV F rfl (fun V=>?_) (fun V=>?_))
 ·
  replace d:=vX V d;refine xV (vY underlying29 zeroValue29 (fun w=>by simp [sizeOf2,sizeOf27];rfl) F rfl rfl rfl rfl rfl on rfl rfl fun a F=>cN (vs:=[xC 0,qD]) sizeOf29 F rfl rfl rfl H (oc rfl (oc rfl on)) rfl rfl fun w H=>xA 1 F rfl fun a F=>xJ (xR (oQ (vJ F rfl (kF (arr:=#[xC 0,qD]) F isAgg29 sizeOf29 rfl (H.b 0 rfl)) (oE F rfl) ?_))));obtain rfl:=oj d;exact⟨_,rfl,qD,rfl,((H.nl 2 oR 69).s [0] rfl rfl),(show xS 0 by decide),(show xS (2) by decide)⟩
 replace d:=vW V d;refine xN (xG (xV (oD eE F rfl rfl rfl fun a F=>oB isAgg2 F rfl rfl (H.b 1 rfl) rfl fun a F=>vY underlying29 zeroValue29 (fun w=>by simp [sizeOf2,sizeOf27];rfl) F rfl rfl rfl rfl rfl (oc rfl on) rfl rfl fun a F=>oA zeroValue29 F rfl rfl H fun a w p H F=>cN (vs:=[xC e.vars,qD]) sizeOf29 F rfl rfl rfl H (oc rfl (oc rfl on)) rfl rfl fun w H=>xJ ?_)));refine xF (xV (xA 1 F rfl fun a F=>xJ ?_));obtain⟨o1,d,ag⟩:=xM d;refine oH (fun a w=>∃ (Z:List Con) (K:Value),o1= .nx Z∧Sk a 54 [(6,oO n),(8,oO p)]∧Sep [] B h w [rl 2 oR 69 K Z,bx p [xC e.vars,K] 29,bx n [xC 0,qD] 29]) ?_ ?_
 ·
  refine oJ ?_;obtain⟨ah,ai,d⟩:=qP d;refine qK (fun g a w=>∃ (t:Nat) (C:List Int) (D:List Con) (f:Value),(t≤J.length∧J.drop t=C)∧C.length=g∧qT ah C t D=some o1∧Sk a 54 [(9,xC (t:Int)),(2,A),(4,oO x),(6,oO n),(8,oO p)]∧Sep [] B h w [rl 2 oR 69 f D,bx p [xC e.vars,f] 29,bx n [xC 0,qD] 29,bx x [xC e.vars,N] 29]) J.length ?_ ?_
  ·
   exact⟨0,J,[],qD,⟨Nat.zero_le _,rfl⟩,rfl,d,F.su,((H.nl 2 oR 69).s [0,1,2,3] rfl rfl)⟩
  intro g1 a w ⟨t,C,D,f,j,aj,d,F,H⟩
  cases C with
  | nil=>
   replace d:=qO d;have q1:=qQ j.1 j.2;have l1:=vS q1;refine xF (xV (xA 2 F rfl fun a F=>oL underlying41 F rfl rfl P fun a i4 F=>xA 1 F rfl fun a F=>xJ (zD F rfl l1 (qJ ?_))));refine qM (qM (zQ (xG ?_)));exact⟨D,f,(zH d),F.su,(H.s [0,1,2] rfl rfl)⟩
  | cons x3 C=>
   subst aj;replace j:=oZ j.2;have y1:=qX j.2.1;obtain⟨bc,d,ak⟩:=qG d;rw[ai] at d;have l1:=vE j.1;refine xF (xV (xA 2 F rfl fun a F=>oL underlying41 F rfl rfl P fun a i5 F=>xA 1 F rfl fun a F=>xJ (zC F rfl l1 (xN ?_))));refine xG (xF ?_);have j1:=gP (Nat.le_of_lt j.1) i5;have m1:=zU j.1 i5;refine oJ (xF (xQ H (by kernel_rfl) (by kernel_rfl) (xP F rfl (fun w l=>oM zT F rfl rfl) fun a F=>qB isAgg27 F rfl rfl (H.qb 3 rfl) rfl fun a F=>xP F rfl (fun w l=>xL F rfl) fun a F=>xP F rfl (fun w l=>xL F rfl) fun a F=>qI underlying41 sizeOf2 F rfl rfl rfl P y1 fun a p1 h3 F=>qlI isAgg2 F rfl rfl H.q h3 (fun a i6 F=>?_))));obtain⟨E,c4,d⟩:=xB d;refine qI underlying27 sizeOf69 F rfl rfl rfl Y c4 fun a p2 Q F=>xP F rfl (fun w l=>vK F rfl) fun a F=>kZ fun w H=>xG ?_;obtain⟨I,c5,d⟩:=xB d;obtain⟨z6,c6,d⟩:=xB d;refine xD H (by kernel_rfl) fun w H=>dp (fun G=>∀ (v6:Value) (a:Act) (w:World),Sk a 54 [(2,A),(4,oO x),(6,oO n),(8,oO p),(9,xC (t:Int)),(39,f),(50,v6)]→Sep [] B h w [rl 2 oR 69 v6 ([(Con.mk E.rel I)]),rl 2 oR 69 f D,bx p [xC e.vars,f] 29,bx n [xC 0,qD] 29,bx x [xC e.vars,N] 29]→∀ i,i = #[true,true,true,true,true,true,true,true,true,true,true,true,true,false,false,false]→G 3 i a w) ?_ (fun H1=>?_)
   ·
    intro v6 a w F H i M;subst M;refine xE H 13 rfl (by kernel_rfl) (oPL (sz:=2) (R:=oR) (z:=(.agg #[xC 0,qD])) (bytes:=32) underlying27 (by kernel_rfl) rfl rfl F rfl rfl rfl (H.s [1,0,2,3,4] rfl rfl) c6 fun a w v7 H F=>xJ ⟨⟨_,H⟩,?_⟩);refine qE 14 rfl (by kernel_rfl) (xO F rfl (fun w l=>oM zT F rfl rfl) fun a F=>xE H 15 rfl (by kernel_rfl) (oW sizeOf27 F rfl rfl rfl (H.s [1,0,2,3] rfl rfl) ((H.s [1,0,2,3] rfl rfl).l 1 rfl).one rfl rfl fun w H=>xJ ⟨⟨_,H⟩,?_⟩));refine vZ (by kernel_rfl) (vH (xG (xY (xA 1 F rfl fun a F=>vP F rfl rfl rfl m1 fun a F=>xA 1 F rfl fun a F=>xJ ?_))));replace d:=vU d ak;exact⟨_,Nat.lt_succ_self _,t+1,C,z6,v7,⟨j.1,j.2.2⟩,rfl,d,F.su,(H.s [1,0,2,3] rfl rfl)⟩
   refine dp (fun G=>∀ (v8:Value) (a:Act) (w:World),Sk a 54 [(2,A),(4,oO x),(6,oO n),(8,oO p),(9,xC (t:Int)),(39,f),(49,(.agg #[xC E.rel,v8]))]→Sep [] B h w [rl 1 xI 2 v8 I,rl 2 oR 69 f D,bx p [xC e.vars,f] 29,bx n [xC 0,qD] 29,bx x [xC e.vars,N] 29]→xS E.rel→∀ i,i = #[true,true,true,true,true,true,true,true,true,true,true,true,false,false,false,false]→G 4 i a w) ?_ (fun H2=>?_)
   ·
    intro v8 a w F H i7 i M;subst M;refine xE H 12 rfl (by kernel_rfl) ?_;have H:=(oR.w i7 H);refine eZ (R:=oR) (y:=(Con.mk E.rel I)) underlying27 sizeOf69 zeroValue69 rfl rfl F rfl rfl H El.agg fun a w v9 H F=>xJ ⟨⟨_,H⟩,?_⟩;exact H1 v9 _ _ (F.su) H _ (by kernel_rfl)
   refine dp (fun G=>∀ (O:Value) (a:Act) (w:World),Sk a 54 [(2,A),(4,oO x),(6,oO n),(8,oO p),(9,xC (t:Int)),(39,f),(43,xC E.rel),(48,O)]→Sep [] B h w [rl 1 xI 2 O I,rl 2 oR 69 f D,bx p [xC e.vars,f] 29,bx n [xC 0,qD] 29,bx x [xC e.vars,N] 29]→xS E.rel→∀ i,i = #[true,true,true,true,true,true,true,true,true,true,true,false,false,false,false,false]→G 5 i a w) ?_ (fun H3=>?_)
   ·
    intro O a w F H i8 i M;subst M;refine xE H 11 rfl (by kernel_rfl) (vY underlying69 zeroValue69 (fun w=>by simp [sizeOf2,sizeOf41];rfl) F rfl rfl rfl rfl rfl (oc rfl (oc (H.l 0 rfl).one on)) rfl rfl fun a F=>xJ ⟨⟨_,H⟩,?_⟩);exact H2 O _ _ (F.su) H i8 _ (by kernel_rfl)
   refine qE 0 rfl (by kernel_rfl) (xO F rfl (fun w l=>oM zT F rfl rfl) fun a F=>qW 2 rfl (by kernel_rfl) (xO F rfl (fun w l=>xL F rfl) fun a F=>qE 3 rfl (by kernel_rfl) (vN F rfl rfl Q fun a F=>qE 4 rfl (by kernel_rfl) (vF (s':=1) lX F rfl rfl Q oR.f0 fun a p3 h5 F=>qE 5 rfl (by kernel_rfl) (vlI isAgg2 F rfl rfl H.v h5 fun a T F=>qW 6 rfl (by kernel_rfl) ?_)))));refine xO F rfl (fun w l=>xL F rfl) fun a F=>qE 7 rfl (by kernel_rfl) (vN F rfl rfl Q fun a F=>qE 8 rfl (by kernel_rfl) (vF (s':=1) bM F rfl rfl Q oR.f1 fun a p4 h6 F=>qE 9 rfl (by kernel_rfl) (vlS isAgg41 F rfl rfl H.v h6 fun a bd h7 F=>kP [1,10] (by kernel_rfl) (by simp) ⟨⟨_,rfl,?_⟩,⟨_,rfl,?_⟩,trivial⟩)))
   ·
    refine kJ H (oB isAgg27 F rfl rfl (H.b 1 rfl) rfl fun a F=>xJ ⟨⟨_,H⟩,?_⟩);refine xE H 10 rfl (by kernel_rfl) (oG F rfl call59 rfl (eD I c5 _ aA (H.a h7)) (fun a vv w ⟨al,be,S⟩ F=>?_));subst vv;have H:=H.r1 S n0;refine xJ ⟨⟨_,H⟩,?_⟩;exact H3 al _ _ (F.su) H T _ (by kernel_rfl)
   refine kJ H (oG F rfl call59 rfl (eD I c5 _ aA (H.a h7)) (fun a vv w ⟨a5,bf,S⟩ F=>?_));subst vv;have H:=H.r1 S n0;refine xJ ⟨⟨_,H⟩,?_⟩;refine kP [1,11] (by kernel_rfl) (by simp) ⟨⟨_,rfl,?_⟩,⟨_,rfl,?_⟩,trivial⟩
   ·
    refine kJ H (oB isAgg27 F rfl rfl (H.b 2 rfl) rfl fun a F=>xJ ⟨⟨_,H⟩,?_⟩);exact H3 a5 _ _ (F.su) H T _ (by kernel_rfl)
   refine kJ H (vY underlying69 zeroValue69 (fun w=>by simp [sizeOf2,sizeOf41];rfl) F rfl rfl rfl rfl rfl (oc rfl (oc (H.l 0 rfl).one on)) rfl rfl fun a F=>xJ ⟨⟨_,H⟩,?_⟩);refine kP [1,12] (by kernel_rfl) (by simp) ⟨⟨_,rfl,?_⟩,⟨_,rfl,?_⟩,trivial⟩
   ·
    refine kJ H (oB isAgg27 F rfl rfl (H.b 2 rfl) rfl fun a F=>xJ ⟨⟨_,H⟩,?_⟩);exact H2 a5 _ _ (F.su) H T _ (by kernel_rfl)
   refine kJ H ?_;have H:=(oR.w T H);refine eZ (R:=oR) (y:=(Con.mk E.rel I)) underlying27 sizeOf69 zeroValue69 rfl rfl F rfl rfl H El.agg fun a w am H F=>xJ ⟨⟨_,H⟩,?_⟩;refine xE H 1 rfl (by kernel_rfl) (oB isAgg27 F rfl rfl (H.b 2 rfl) rfl fun a F=>xJ ⟨⟨_,H⟩,?_⟩);exact H1 am _ _ (F.su) H _ (by kernel_rfl)
 rintro a w ⟨Z,K,rfl,F,H⟩
 have d:=xW ag;refine xG (xV (dJ isAgg29 sizeOf29 F rfl rfl (H.b 1 rfl) rfl rfl fun a F=>cN (vs:=[xC e.vars,K]) sizeOf29 F rfl rfl rfl (H.s [2,0,1] rfl rfl) (oc rfl (oc ((H.s [2,0,1] rfl rfl).l 1 rfl).one on)) rfl rfl fun w H=>xA 1 F rfl fun a F=>xJ (xR (vJ F rfl (kF (arr:=#[xC e.vars,K]) F isAgg29 sizeOf29 rfl (H.b 0 rfl)) (oE F rfl) ?_))));obtain rfl:=oj d;exact⟨_,rfl,K,rfl,(H.s [1] rfl rfl),i2,(show xS (0) by decide)⟩
end Go.Proofs.YtncganhbpbehaaaGreat
