import Derived.Test.YtghihmkhdhjhiaaGreatDoorQ0
namespace Go.Proofs.YtghihmkhdhjhiaaGreatDoor
open Go.Proofs.Tryz
set_option maxHeartbeats 1000000
set_option linter.unusedVariables false
set_option linter.unusedSimpArgs false
set_option maxRecDepth 100000
open Go.RowKit
def zV (N:Nat) (c:Template) (d:Instance) (f:Int):Option ((List Int)×Int×Int):=
 xZ (aG (Template.mk c.size c.rels) (Instance.mk d.vars d.cons) f) fun h=>
 if (h != 0) then
  some ([],0,h)
 else
  xZ (kS (Template.mk c.size c.rels) (Instance.mk d.vars d.cons)) fun i=>
  xZ (aK N (Template.mk c.size c.rels) (Instance.mk d.vars d.cons) i f) fun e=>
  if (e.1.2.2.2.2.2.2.2.2==7) then
   some ([],0,7)
  else
   some (e.1.2.2.2.2.2.2.2.1,e.1.2.2.2.2.2.1,e.1.2.2.2.2.2.2.2.2)
theorem iE {B:Nat→Prop} {N:Nat} {O:Template} {P:Instance} {h:Int} (r:(List Int)×Int×Int) (d:zV N O P h=some r) {p:Value} {t:Value} (f:World) (hN:∀ c,B c→c<f.heap.size) (A0:Bo B f (kJ 2 xJ) p O) (A1:Bo B f (kJ 2 xK) t P) (I:xO h):Calls Tryz.prog 6 #[p,t,xC h] f (Gv (fun v w'=>∃ (J:Value),v= .tuple #[J,xC r.2.1,xC r.2.2]∧Sep [] B f w' [rl 1 xI 2 J r.1]∧xO r.2.1∧xO r.2.2)):=by
 unfold zV at d
 refine xW (L:=[(0,p),(1,t),(2,xC h)]) func6 rfl rfl rfl (sc rfl (sc rfl (sc rfl sn))) (fun a F=>?_);have H:=Sep.start hN;refine xV ?_;obtain⟨v2,rfl,y,A⟩:=xJ.o A0;refine oX F rfl rfl rfl H (fun a w b1 H F=>?_);obtain⟨ag,rfl,C,D⟩:=xK.o A1;refine oX F rfl rfl rfl H fun a w b2 H F=>xA 3 F rfl fun a F=>xG (xF (xV (fJ isAgg26 sizeOf26 F rfl rfl (H.b 1 rfl) rfl rfl fun a F=>fJ isAgg29 sizeOf29 F rfl rfl (H.b 0 rfl) rfl rfl (fun a F=>?_))));refine xA 1 F rfl fun a F=>?_;obtain⟨z1,c1,d⟩:=xB d;refine oKI F rfl call21 rfl H (jM z1 c1 _ aA (xJ.m y (H.a A)) (xK.m C (H.a D)) I) fun a w H Z F=>xA 1 F rfl fun a F=>vE (xA 2 F rfl fun a F=>xG (qS F rfl (fun j=>?_) (fun j=>?_)))
 ·
  replace d:=vY j d;refine xV (xA 4 F rfl fun a F=>xG (xP (oJ (jL F rfl (xX F rfl) (xX F rfl) (xX F rfl) ?_))));obtain rfl:=oj d;exact⟨_,rfl,qQ,rfl,((H.nl 1 xI 2).s [0] rfl rfl),(show xO (0) by decide),Z⟩
 replace d:=vX j d;refine xS (xH (xF ?_));obtain⟨Q,c2,d⟩:=xB d;obtain⟨e,c3,d⟩:=xB d;obtain⟨w1,rfl⟩:∃ x,x=w:=⟨_,rfl⟩;have ah:=H.sm;obtain⟨X1,N1,R,i,H,M,ai⟩:=H.mg.fza;have K1:=R.l.bk;have T:=R.r.bk;refine xD H (by kernel_rfl) fun w H=>oV 0 rfl (by kernel_rfl) (vBA isAgg26 sizeOf26 F rfl rfl (T.v H.sm) rfl rfl fun a F=>oV 1 rfl (by kernel_rfl) (vBA isAgg29 sizeOf29 F rfl rfl (K1.v H.sm) rfl rfl fun a F=>oV 2 rfl (by kernel_rfl) (vBA isAgg26 sizeOf26 F rfl rfl (T.v H.sm) rfl rfl fun a F=>oV 3 rfl (by kernel_rfl) (vBA isAgg29 sizeOf29 F rfl rfl (K1.v H.sm) rfl rfl fun a F=>qP 5 rfl (by kernel_rfl) (xN F rfl (fun w l=>xL F rfl) (fun a F=>?_))))));refine xE H 4 rfl (by kernel_rfl) (oG F rfl call23 rfl (dW Q c2 _ aA (xJ.m y (H.a (i A))) (xK.m C (H.a (i D)))) (fun a E w ⟨U,aj,S⟩ F=>?_));subst E;have H:=H.r1 S n0;refine xG ⟨⟨_,H⟩,?_⟩;refine xE H 6 rfl (by kernel_rfl) ?_;have H:=H.lw;obtain⟨X2,K3,Y⟩:=Sep.lend (K:=[rw N0 1 (qK 1 xI) 32 U Q]) (L:=[]) H;refine oG F rfl call22 rfl (mW e c3 _ H.hN K3 (xJ.m y (H.u (i A))) (xK.m C (H.u (i D))) I) (fun a E w ⟨b3,v4,v5,V,G,ak,S,i3,W,i4,X,i5,i6,i7⟩ F=>?_);subst E;have W:=H.dn W;have X:=H.dn X;have H:Sep X1 N1 w1 w [bx b3 [xC e.1.1,v4,xC e.1.2.2.1,v5,xC e.1.2.2.2.2.1,xC e.1.2.2.2.2.2.1,V,G,xC e.1.2.2.2.2.2.2.2.2] 66,rl 4 oP 77 V e.1.2.2.2.2.2.2.1,rl 1 xI 2 G e.1.2.2.2.2.2.2.2.1,rw N0 1 (qK 1 xI) 32 U e.2]:=Y S;refine xG ⟨⟨_,H⟩,?_⟩;refine qP 7 rfl (by kernel_rfl) (xN F rfl (fun w l=>qU F rfl) fun a F=>vP (by kernel_rfl) (xH (xF (xV (xA 1 F rfl fun a F=>qJ F rfl rfl fun a F=>oD sI F rfl rfl rfl fun a F=>oB isAgg2 F rfl rfl (H.b 0 rfl) rfl (fun a F=>?_))))));refine xA 1 F rfl fun a F=>xG (qS F rfl (fun n=>?_) (fun n=>?_))
 ·
  replace d:=vY n d;refine xV (xA 3 F rfl fun a F=>xG (xP (oJ ?_)));have H:=(M.1 H (Ns.all ⟨n0,⟨n0,⟨n0,⟨n0,trivial⟩⟩⟩⟩)).um;refine jL F rfl (xX F rfl) (xX F rfl) (xX F rfl) ?_;obtain rfl:=oj d;exact⟨_,rfl,qQ,rfl,((H.nl 1 xI 2).s [0] rfl rfl),(show xO (0) by decide),(show xO (7) by decide)⟩
 replace d:=vX n d;refine xS (xH (xF (xQ H (by kernel_rfl) (by kernel_rfl) (xM F rfl (fun w l=>xL F rfl) fun a F=>xM F rfl (fun w l=>oY F rfl) fun a F=>xM F rfl (fun w l=>xU xAx F rfl rfl) fun a F=>qB isAgg32 F rfl rfl (H.qb 0 rfl) rfl fun a F=>xM F rfl (fun w l=>xL F rfl) fun a F=>xM F rfl (fun w l=>oY F rfl) fun a F=>xM F rfl (fun w l=>xU xBr F rfl rfl) (fun a F=>?_)))));refine qB isAgg2 F rfl rfl (H.qb 0 rfl) rfl fun a F=>xM F rfl (fun w l=>xL F rfl) fun a F=>xM F rfl (fun w l=>oY F rfl) fun a F=>xM F rfl (fun w l=>xU sI F rfl rfl) fun a F=>qB isAgg2 F rfl rfl (H.qb 0 rfl) rfl fun a F=>xM F rfl (fun w l=>qU F rfl) fun a F=>xM F rfl (fun w l=>qU F rfl) fun a F=>xM F rfl (fun w l=>qU F rfl) fun a F=>kT fun w H=>xH (xP ?_);have H:=(M.1 H (Ns.all ⟨n0,⟨n0,⟨n0,⟨n0,trivial⟩⟩⟩⟩)).um;refine jL F rfl (xX F rfl) (xX F rfl) (xX F rfl) ?_;obtain rfl:=oj d;exact⟨_,rfl,G,rfl,(H.s [4] rfl rfl),i6,i7⟩
def aO (N:Nat) (c:Template) (d:Instance) (f:Int):Option ((List Line)×Int):=
 xZ (aG (Template.mk c.size c.rels) (Instance.mk d.vars d.cons) f) fun h=>
 if (h != 0) then
  some ([],h)
 else
  xZ (kS (Template.mk c.size c.rels) (Instance.mk d.vars d.cons)) fun i=>
  xZ (aK N (Template.mk c.size c.rels) (Instance.mk d.vars d.cons) i f) fun e=>
  if (e.1.2.2.2.2.2.2.2.2==7) then
   some ([],7)
  else
   if (e.1.2.2.2.2.2.2.2.2==0) then
    some ([],6)
   else
    if (decide (4000<(e.1.2.2.2.2.2.2.1.length:Int))) then
     some ([],3)
    else
     some (e.1.2.2.2.2.2.2.1,0)
theorem nC {B:Nat→Prop} {N:Nat} {Q:Template} {R:Instance} {i:Int} (r:(List Line)×Int) (d:aO N Q R i=some r) {A:Value} {C:Value} (f:World) (hN:∀ c,B c→c<f.heap.size) (A0:Bo B f (kJ 2 xJ) A Q) (A1:Bo B f (kJ 2 xK) C R) (O:xO i):Calls Tryz.prog 8 #[A,C,xC i] f (Gv (fun v w'=>∃ (P:Value),v= .tuple #[P,xC r.2]∧Sep [] B f w' [rl 4 oP 77 P r.1]∧xO r.2)):=by
 unfold aO at d
 refine xW (L:=[(0,A),(1,C),(2,xC i)]) func8 rfl rfl rfl (sc rfl (sc rfl (sc rfl sn))) (fun a F=>?_);have H:=Sep.start hN;refine xV ?_;obtain⟨v2,rfl,D,E⟩:=xJ.o A0;refine oX F rfl rfl rfl H (fun a w b1 H F=>?_);obtain⟨ag,rfl,G,I⟩:=xK.o A1;refine oX F rfl rfl rfl H fun a w b2 H F=>xA 2 F rfl fun a F=>xG (xF (xV (fJ isAgg26 sizeOf26 F rfl rfl (H.b 1 rfl) rfl rfl fun a F=>fJ isAgg29 sizeOf29 F rfl rfl (H.b 0 rfl) rfl rfl fun a F=>xA 1 F rfl fun a F=>?_)));obtain⟨z1,c1,d⟩:=xB d;refine oKI F rfl call21 rfl H (jM z1 c1 _ aA (xJ.m D (H.a E)) (xK.m G (H.a I)) O) fun a w H a1 F=>xA 1 F rfl fun a F=>vE (xA 2 F rfl fun a F=>xG (qS F rfl (fun n=>?_) (fun n=>?_)))
 ·
  replace d:=vY n d;refine xV (xA 3 F rfl fun a F=>xG (xP (oJ (vV F rfl (xX F rfl) (xX F rfl) ?_))));obtain rfl:=oj d;exact⟨_,rfl,qQ,rfl,((H.nl 4 oP 77).s [0] rfl rfl),a1⟩
 replace d:=vX n d;refine xS (xH (xF ?_));obtain⟨T,c2,d⟩:=xB d;obtain⟨e,c3,d⟩:=xB d;obtain⟨w1,rfl⟩:∃ x,x=w:=⟨_,rfl⟩;have ah:=H.sm;obtain⟨X1,N1,U,j,H,h,ai⟩:=H.mg.fza;have K1:=U.l.bk;have V:=U.r.bk;refine xD H (by kernel_rfl) fun w H=>oV 0 rfl (by kernel_rfl) (vBA isAgg26 sizeOf26 F rfl rfl (V.v H.sm) rfl rfl fun a F=>oV 1 rfl (by kernel_rfl) (vBA isAgg29 sizeOf29 F rfl rfl (K1.v H.sm) rfl rfl fun a F=>oV 2 rfl (by kernel_rfl) (vBA isAgg26 sizeOf26 F rfl rfl (V.v H.sm) rfl rfl fun a F=>oV 3 rfl (by kernel_rfl) (vBA isAgg29 sizeOf29 F rfl rfl (K1.v H.sm) rfl rfl fun a F=>qP 5 rfl (by kernel_rfl) (xN F rfl (fun w l=>xL F rfl) (fun a F=>?_))))));refine xE H 4 rfl (by kernel_rfl) (oG F rfl call23 rfl (dW T c2 _ aA (xJ.m D (H.a (j E))) (xK.m G (H.a (j I)))) (fun a J w ⟨W,aj,S⟩ F=>?_));subst J;have H:=H.r1 S n0;refine xG ⟨⟨_,H⟩,?_⟩;refine xE H 6 rfl (by kernel_rfl) ?_;have H:=H.lw;obtain⟨X2,K3,a0⟩:=Sep.lend (K:=[rw N0 1 (qK 1 xI) 32 W T]) (L:=[]) H;refine oG F rfl call22 rfl (mW e c3 _ H.hN K3 (xJ.m D (H.u (j E))) (xK.m G (H.u (j I))) O) (fun a J w ⟨b3,v4,v5,M,X,ak,S,i3,Y,i4,Z,i5,i6,i7⟩ F=>?_);subst J;have Y:=H.dn Y;have Z:=H.dn Z;have H:Sep X1 N1 w1 w [bx b3 [xC e.1.1,v4,xC e.1.2.2.1,v5,xC e.1.2.2.2.2.1,xC e.1.2.2.2.2.2.1,M,X,xC e.1.2.2.2.2.2.2.2.2] 66,rl 4 oP 77 M e.1.2.2.2.2.2.2.1,rl 1 xI 2 X e.1.2.2.2.2.2.2.2.1,rw N0 1 (qK 1 xI) 32 W e.2]:=a0 S;refine xG ⟨⟨_,H⟩,?_⟩;refine qP 7 rfl (by kernel_rfl) (xN F rfl (fun w l=>qU F rfl) fun a F=>vP (by kernel_rfl) (xH (oQ (xV (xA 1 F rfl fun a F=>qJ F rfl rfl fun a F=>oD sI F rfl rfl rfl fun a F=>oB isAgg2 F rfl rfl (H.b 0 rfl) rfl (fun a F=>?_))))));refine xA 2 F rfl fun a F=>xG (qS F rfl (fun p=>?_) (fun p=>?_))
 ·
  replace d:=vY p d;refine xV (xA 2 F rfl fun a F=>xG (xP (vO ?_)));have H:=(h.1 H (Ns.all ⟨n0,⟨n0,⟨n0,⟨n0,trivial⟩⟩⟩⟩)).um;refine vV F rfl (xX F rfl) (xX F rfl) ?_;obtain rfl:=oj d;exact⟨_,rfl,qQ,rfl,((H.nl 4 oP 77).s [0] rfl rfl),(show xO (7) by decide)⟩
 replace d:=vX p d;refine xV (xA 1 F rfl fun a F=>qJ F rfl rfl fun a F=>oD sI F rfl rfl rfl fun a F=>oB isAgg2 F rfl rfl (H.b 0 rfl) rfl fun a F=>xA 2 F rfl fun a F=>xG (qS F rfl (fun t=>?_) (fun t=>?_)))
 ·
  replace d:=vY t d;refine xV (xA 2 F rfl fun a F=>xG (xP (vO ?_)));have H:=(h.1 H (Ns.all ⟨n0,⟨n0,⟨n0,⟨n0,trivial⟩⟩⟩⟩)).um;refine vV F rfl (xX F rfl) (xX F rfl) ?_;obtain rfl:=oj d;exact⟨_,rfl,qQ,rfl,((H.nl 4 oP 77).s [0] rfl rfl),(show xO (6) by decide)⟩
 replace d:=vX t d;refine xV (xA 1 F rfl fun a F=>qJ F rfl rfl fun a F=>oD nV F rfl rfl rfl fun a F=>oB isAgg35 F rfl rfl (H.b 0 rfl) rfl fun a F=>oL underlying35 F rfl rfl (H.l 1 rfl) fun a i8 F=>xA 2 F rfl fun a F=>xG ?_);refine qS F rfl (fun y=>?_) (fun y=>?_)
 ·
  replace d:=vY y d;refine xV (xA 2 F rfl fun a F=>xG (xP (vO ?_)));have H:=(h.1 H (Ns.all ⟨n0,⟨n0,⟨n0,⟨n0,trivial⟩⟩⟩⟩)).um;refine vV F rfl (xX F rfl) (xX F rfl) ?_;obtain rfl:=oj d;exact⟨_,rfl,qQ,rfl,((H.nl 4 oP 77).s [0] rfl rfl),(show xO (3) by decide)⟩
 replace d:=vX y d;refine xV (xA 1 F rfl fun a F=>qJ F rfl rfl fun a F=>oD nV F rfl rfl rfl fun a F=>oB isAgg35 F rfl rfl (H.b 0 rfl) rfl fun a F=>xA 2 F rfl fun a F=>xG (xP ?_));refine vO ?_;have H:=(h.1 H (Ns.all ⟨n0,⟨n0,⟨n0,⟨n0,trivial⟩⟩⟩⟩)).um;refine vV F rfl (xX F rfl) (xX F rfl) ?_;obtain rfl:=oj d;exact⟨_,rfl,M,rfl,(H.s [3] rfl rfl),(show xO (0) by decide)⟩
def lB (c d:List Int):Option (List Int):=
 zW (σ:=(List Int)) (
  qR (σ:=(List Int)) (ρ:=(List Int)) (fun (n:Nat) (e:Int) (f:(List Int))=>
   xZ (ix c e) fun h=>
   xZ (ap f ([h])) fun i=>
   some (.go i)) d 0 []) fun j=>
 some j
theorem yY {B:Nat→Prop} {E f:List Int} (r:(List Int)) (d:lB E f=some r) {n:Value} {p:Value} (h:World) (Q:∀ c,B c→c<h.heap.size) (S:Bo B h (Sl 1 xI) n E) (G:Bo B h (Sl 1 xI) p f):Calls Tryz.prog 99 #[n,p] h (Gv (fun v w'=>∃ (D:Value),v=D∧Sep [] B h w' [rl 1 xI 2 D r])):=by
 unfold lB at d
 refine xW (L:=[(0,n),(1,p)]) func99 rfl rfl rfl (sc rfl (sc rfl sn)) (fun a F=>?_);have H:=Sep.start Q;refine xV (xA 1 F rfl fun a F=>vE (oR0 (R:=xI) underlying32 sizeOf2 F rfl H fun a w T H F=>xA 1 F rfl fun a F=>xG ?_));refine xF (xV (xA 1 F rfl fun a F=>oL underlying32 F rfl rfl G fun a I F=>xA 1 F rfl fun a F=>xG ?_));obtain⟨J,d,K⟩:=xT d;refine oR (fun a w=>∃ (C:List Int) (t:Value),J= .nx C∧Sk a 24 [(5,t)]∧Sep [] B h w [rl 1 xI 2 t C]) ?_ ?_
 ·
  refine oQ ?_;obtain⟨M,N,d⟩:=qZ d;refine qY (fun g a w=>∃ (j:Nat) (i x:List Int) (A:Value),(j≤f.length∧f.drop j=i)∧i.length=g∧qR M i j x=some J∧Sk a 24 [(11,xC (j:Int)),(0,n),(5,A),(9,p),(10,xC (f.length:Int))]∧Sep [] B h w [rl 1 xI 2 A x]) f.length ?_ ?_
  ·
   exact⟨0,f,[],T,⟨Nat.zero_le _,rfl⟩,rfl,d,F.su,H⟩
  intro g1 a w ⟨j,i,x,A,e,O,d,F,H⟩
  cases i with
  | nil=>
   replace d:=vA d;have U:=vC e.1 e.2;have l1:=zK U;refine xV (xA 1 F rfl fun a F=>xG (xF (zS F rfl l1 (qV (qX (qX (kF ?_)))))));refine xH ?_;exact⟨x,A,(zL d),F.su,H⟩
  | cons x2 i=>
   subst O;replace e:=qE e.2;have V:=vH e.2.1;obtain⟨a5,d,P⟩:=qM d;rw[N] at d;have l1:=vR e.1;refine xV (xA 1 F rfl fun a F=>xG (xF (zQ F rfl l1 (xS (xH (xF ?_))))));have j1:=k64 (Nat.le_of_lt e.1) I;have W:=kO e.1 I;refine oQ (xV (oI underlying32 sizeOf2 F rfl rfl rfl G V fun a p1 X F=>olI isAgg2 F rfl rfl H.sm X fun a i2 F=>xA 1 F rfl fun a F=>xG (oM (xA 2 F rfl fun a F=>?_))));refine xA 1 F rfl fun a F=>?_;obtain⟨Y,Z,d⟩:=xB d;refine oI underlying32 sizeOf2 F rfl rfl rfl S Z fun a p2 h2 F=>olI isAgg2 F rfl rfl H.sm h2 fun a i3 F=>dF (R:=xI) (y:=Y) underlying32 sizeOf2 zeroValue2 rfl rfl F rfl rfl H (Eo.int i3) (fun a w v5 H F=>?_);obtain⟨z2,c2,d⟩:=xB d;refine oPL (sz:=1) (R:=xI) (z:=(xC 0)) (bytes:=8) underlying32 (by kernel_rfl) rfl rfl F rfl rfl rfl (H.s [1,0] rfl rfl) c2 fun a w v6 H F=>xA 1 F rfl fun a F=>zE (vK (xH (oM (zG F rfl rfl rfl W fun a F=>xA 1 F rfl fun a F=>xG ?_))));replace d:=zM d P;exact⟨_,Nat.lt_succ_self _,j+1,i,z2,v6,⟨e.1,e.2.2⟩,rfl,d,F.su,H⟩
 rintro a w ⟨C,t,rfl,F,H⟩
 have d:=xY K;refine xH (xV (xA 2 F rfl fun a F=>xG (xP (xR F rfl (xX F rfl) ?_))));obtain rfl:=oj d;exact⟨_,rfl,t,rfl,H⟩
def vS (N:Nat) (c:List (List Int)) (i:List Int) (j:(List Int)→(List Int)→Option Int):Option (Int×Bool):=
 zW (σ:=Int×Int) (
  fE (σ:=Int×Int) (ρ:=Int×Bool) (fun(s:Int×Int)=>
    match s with
    | (d,e)=>
    if (decide (d<e)) then
     xZ (ck (d+e)) fun n=>
     xZ (nn n) fun h=>
     xZ (ix c (h / 2)) fun p=>
     xZ (j p i) fun t=>
     if (decide (t<0)) then
      xZ (ck ((h / 2)+1)) fun x=>
      some (.go (x,e))
     else
      some (.go (d,(h / 2)))
    else
     some (.brk (d,e))) N (0,(c.length:Int))) fun(f,D)=>
 zW (σ:=Int×Bool) (
  if (decide (f<(c.length:Int))) then  xZ (ix c f) fun y=>
   xZ (j y i) fun A=>
   some (.nx (f,(A==0))) else  some (.nx (f,false))) fun(B,C)=>
 some (B,C)
theorem cA {B:Nat→Prop} {N:Nat} {j:List (List Int)} {R:List Int} {S:(List Int)→(List Int)→Option Int} (r:Int×Bool) (d:vS N j R S=some r) {A:Value} {C:Value} {h:FuncId} {x:List Value} (e:World) (hN:∀ c,B c→c<e.heap.size) (J:Bo B e (Sl 1 (qK 1 xI)) A j) (T:Bo B e (Sl 1 xI) C R) (P:∀ args w,(callFunc h args).run Tryz.prog w= .ok (.enter h args) w) (Q:∀ (U V:List Int) (r:Int),S U V=some r→∀ W,Below e.heap.size e W→∀ (X Y:Value),Bo (All W) W (Sl 1 xI) X U→Bo (All W) W (Sl 1 xI) Y V→Calls Tryz.prog h ([X,Y]++x:List Value).toArray W (gF r W)):Calls Tryz.prog 129 #[A,C,.func (.func h) #[] x.toArray] e (Gv (fun v w'=>v= .tuple #[xC r.1,.bool r.2]∧Sep [] B e w' []∧xO r.1)):=by
 unfold vS at d
 refine xW (L:=[(0,A),(1,C),(2,.func (.func h) #[] x.toArray)]) func129 rfl rfl rfl (sc rfl (sc rfl (sc rfl sn))) (fun a F=>?_);have H:=Sep.start hN;refine xV (xA 2 F rfl fun a F=>vE (xA 1 F rfl fun a F=>oL underlying55 F rfl rfl J fun a i1 F=>xA 1 F rfl fun a F=>?_));refine vE (xA 3 F rfl fun a F=>xG (xF ?_));obtain⟨Z,d,a7⟩:=xT d;refine oR (fun a w=>∃ (i K:Int),Z= .nx (i,K)∧Sk a 49 [(0,A),(1,C),(2,.func (.func h) #[] x.toArray),(8,xC (j.length:Int)),(9,xC i)]∧Sep [] B e w []∧xO i∧xO K) ?_ ?_
 ·
  refine oQ ?_;obtain⟨a8,a9,d⟩:=dE d;refine qY (fun g a w=>∃ (n p:Int),fE a8 g (n,p)=some Z∧Sk a 49 [(0,A),(1,C),(2,.func (.func h) #[] x.toArray),(8,xC (j.length:Int)),(9,xC n),(10,xC p)]∧Sep [] B e w []∧xO n∧xO p) N ?_ ?_
  ·
   exact⟨0,(j.length:Int),d,F.su,H,(show xO (0) by decide),i1⟩
  intro g1 a w ⟨n,p,d,F,H,i2,i3⟩;obtain⟨aq,t1,ar,d,E⟩:=aQ d;rw[a9] at d;refine xF (xV (xA 3 F rfl fun a F=>xG (qS F rfl (fun G=>?_) (fun G=>?_))))
  ·
   replace d:=vY G d;refine xS (xH (oQ (xV (xA 2 F rfl fun a F=>?_))));obtain⟨z1,M,d⟩:=xB d;refine cR F rfl rfl rfl M (fun a F=>?_);obtain⟨t,f,d⟩:=xB d
   have i4:xO t:=by rw[(iX f).2];exact(kQ M)
   refine oU1 underlying3 underlying174 F rfl rfl (kQ M) f fun a F=>oU2 F rfl rfl fun a F=>oU3 underlying174 underlying3 F rfl rfl (xJd i4 (iX (show nn t=some t by rw[(iX f).2];exact((iX f).2.symm ▸ f))).1) fun a F=>xA 1 F rfl fun a F=>vE (xA 3 F rfl fun a F=>?_);obtain⟨z3,c3,d⟩:=xB d;refine oI underlying55 sizeOf32 F rfl rfl rfl J c3 fun a p1 h1 F=>gX isAgg32 F rfl rfl H.sm h1 fun a v2 aa F=>xA 1 F rfl fun a F=>?_;obtain⟨z4,c4,d⟩:=xB d;refine xPo F rfl rfl P rfl H (Q _ _ z4 c4 _ H.bl _ _ (H.a aa) (H.a T)) fun a w H au F=>xA 1 F rfl fun a F=>xG (qS F rfl (fun I=>?_) (fun I=>?_))
   ·
    replace d:=vY I d;refine oM (xA 1 F rfl fun a F=>?_);obtain⟨z5,c5,d⟩:=xB d;refine cR F rfl rfl rfl c5 fun a F=>xA 1 F rfl fun a F=>zE (vK (xH ?_));replace d:=zM d E;exact⟨t1,(by omega),z5,p,d,F.su,H,(kQ c5),i3⟩
   replace d:=vX I d;refine oM (xA 2 F rfl fun a F=>zE (vK (xH ?_)));replace d:=zM d E;exact⟨t1,(by omega),n,(t / 2),d,F.su,H,i2,(xJd i4 (iX (show nn t=some t by rw[(iX f).2];exact((iX f).2.symm ▸ f))).1)⟩
  replace d:=vX G d;refine qV (qX (qX ?_));replace d:=jO d E;refine kF (xH ?_);exact⟨n,p,(zL d),F.su,H,i2,i3⟩
 rintro a w ⟨i,K,rfl,F,H,i5,i6⟩
 have d:=xY a7;refine xH (xF ?_);obtain⟨o2,d,ab⟩:=xT d;refine oR (fun a w=>∃ (D:Int) (O:Bool),o2= .nx (D,O)∧Sk a 49 [(6,xC D),(7,.bool O)]∧Sep [] B e w []∧xO D) ?_ ?_
 ·
  refine oM (xA 5 F rfl fun a F=>?_)
  rcases vJ (decide (i<(j.length:Int))) with y | y
  ·
   replace d:=vY y d;have F:=F.eb 39 rfl y;refine xA 3 F rfl fun a F=>?_;obtain⟨z6,c6,d⟩:=xB d;refine oI underlying55 sizeOf32 F rfl rfl rfl J c6 fun a p2 h2 F=>gX isAgg32 F rfl rfl H.sm h2 fun a v3 h3 F=>xA 1 F rfl fun a F=>?_;obtain⟨z7,c7,d⟩:=xB d;refine xPo F rfl rfl P rfl H (Q _ _ z7 c7 _ H.bl _ _ (H.a h3) (H.a T)) fun a w H av F=>xA 4 F rfl fun a F=>xG ?_;exact⟨i,(z7==0),(zL d),F.su,H,i5⟩
  replace d:=vX y d;have F:=F.eb 39 rfl y;refine xA 11 F rfl fun a F=>?_;refine xG ?_;exact⟨i,false,(zL d),F.su,H,i5⟩
 rintro a w ⟨D,O,rfl,F,H,i7⟩
 have d:=xY ab;refine xH (xP (vV F rfl (xX F rfl) (xX F rfl) ?_));obtain rfl:=oj d;exact⟨_,rfl,rfl,H,i7⟩
def eW (c d:List Int):Option Int:=
 xZ (zC c d) fun e=>
 some e
theorem sR {B:Nat→Prop} {i j:List Int} (r:Int) (e:eW i j=some r) {f:Value} {h:Value} (d:World) (p:∀ c,B c→c<d.heap.size) (t:Bo B d (Sl 1 xI) f i) (x:Bo B d (Sl 1 xI) h j):Calls Tryz.prog 130 #[f,h] d (gF r d):=by
 unfold eW at e
 refine xW (L:=[(0,f),(1,h)]) func130 rfl rfl rfl (sc rfl (sc rfl sn)) (fun a F=>?_);have H:=Sep.start p;refine xV (xA 1 F rfl fun a F=>vE (xA 2 F rfl fun a F=>?_));obtain⟨y,A,e⟩:=xB e;refine oKI F rfl call131 rfl H (dP y A _ aA (H.a t) (H.a x)) fun a w H n F=>xA 1 F rfl fun a F=>xG (xP (xR F rfl (xX F rfl) ?_));obtain rfl:=oj e;exact⟨⟨rfl,H.bl⟩,n⟩
def hH (N:Nat) (c:Rel) (d:List Int):Option Bool:=
 xZ (vS N c.tuples d (fun e f=>eW e f)) fun h=>
 some h.2
theorem wM {B:Nat→Prop} {N:Nat} {j:Rel} {n:List Int} (r:Bool) (e:hH N j n=some r) {f:Value} {i:Value} (d:World) (t:∀ c,B c→c<d.heap.size) (x:Bo B d (kJ 2 qG) f j) (y:Bo B d (Sl 1 xI) i n):Calls Tryz.prog 98 #[f,i] d (kU (.bool r) d):=by
 unfold hH at e
 refine xW (L:=[(0,f),(1,i)]) func98 rfl rfl rfl (sc rfl (sc rfl sn)) (fun a F=>?_);have H:=Sep.start t;refine xV ?_;obtain⟨G,rfl,I,A⟩:=qG.o x;refine oX F rfl rfl rfl H fun a w J H F=>xA 1 F rfl fun a F=>vE (oD bJ F rfl rfl rfl fun a F=>oB isAgg55 F rfl rfl (H.b 0 rfl) rfl fun a F=>xA 1 F rfl fun a F=>?_);obtain⟨C,p,e⟩:=xB e;refine oG F rfl call129 rfl (cA C p _ aA (H.a A) (H.a y) call130 (fun K M r h W l1 O P f0 f1=>sR r h W aA f0 f1)) (fun a D w ⟨E,S,Q⟩ F=>?_);subst D;have H:=H.r0 S;refine xA 5 F rfl fun a F=>vE (xA 2 F rfl fun a F=>?_);refine xG (xP (xR F rfl (xX F rfl) ?_));obtain rfl:=oj e;exact⟨rfl,H.bl⟩
def cF (N:Nat) (c:Con) (e:Template) (f:(List Int)):Option Bool:=
 xZ (ix e.rels c.rel) fun h=>
 xZ (lB f c.scope) fun i=>
 xZ (hH N h i) fun d=>
 some ((!d))
theorem sN {B:Nat→Prop} {N:Nat} {t:Con} {y:Template} {A:(List Int)} (r:Bool) (d:cF N t y A=some r) {i:Value} {j:Value} {n:Value} (e:World) (D:∀ c,B c→c<e.heap.size) (E:Bo B e (kJ 2 qH) i t) (G:Bo B e (Pt 2 xJ) j y) (I:Bo B e (Pt 1 (qK 1 xI)) n A):Calls Tryz.prog 97 #[i,j,n] e (kU (.bool r) e):=by
 unfold cF at d
 refine xW (L:=[(0,i),(1,j),(2,n)]) func97 rfl rfl rfl (sc rfl (sc rfl (sc rfl sn))) (fun a F=>?_);have H:=Sep.start D;refine xV ?_;obtain⟨v3,rfl,i1,J⟩:=qH.o E;refine oX F rfl rfl rfl H fun a w b1 H F=>xA 1 F rfl fun a F=>xG (xF ?_);obtain⟨z1,K,d⟩:=xB d;obtain⟨M,O,d⟩:=xB d;obtain⟨C,P,d⟩:=xB d;obtain⟨w1,rfl⟩:∃ x,x=w:=⟨_,rfl⟩;have h:=H.sm;obtain⟨X1,N1,Q,p,H,f,Y⟩:=H.fza;have K1:=Q.bk;refine xD H (by kernel_rfl) fun w H=>oV 0 rfl (by kernel_rfl) (vF (s':=1) kW F rfl rfl G xJ.f1 fun a p1 R F=>oV 1 rfl (by kernel_rfl) (vlS isAgg24 F rfl rfl (fun w l=>(h.trans (Sm.mono (H.v w l) f.2.2))) R fun a v4 T F=>oV 2 rfl (by kernel_rfl) (xN F rfl (fun w l=>xU mP F rfl rfl) fun a F=>oV 3 rfl (by kernel_rfl) (vB isAgg2 F rfl rfl (K1.v H.sm) rfl fun a F=>oV 4 rfl (by kernel_rfl) (vI underlying24 sizeOf57 F rfl rfl rfl T K (fun a p2 U F=>?_))))));refine oV 5 rfl (by kernel_rfl) (vlA isAgg57 sizeOf57 F rfl rfl (fun w l=>(h.trans (Sm.mono (H.v w l) f.2.2))) U fun a v5 V F=>oV 6 rfl (by kernel_rfl) (vlS isAgg32 F rfl rfl (fun w l=>(h.trans (Sm.mono (H.v w l) f.2.2))) I fun a v6 W F=>oV 7 rfl (by kernel_rfl) (xN F rfl (fun w l=>xU dD F rfl rfl) fun a F=>oV 8 rfl (by kernel_rfl) (vB isAgg32 F rfl rfl (K1.v H.sm) rfl fun a F=>xE H 9 rfl (by kernel_rfl) (oG F rfl call99 rfl (yY M O _ aA (H.a (p W)) (H.a (p J))) (fun a X w ⟨v7,Z,S⟩ F=>?_))))));subst X;have H:=H.r1 S n0;refine xG ⟨⟨_,H⟩,?_⟩;refine xE H 10 rfl (by kernel_rfl) (oK F rfl call98 rfl H (wM C P _ aA (H.a (p V)) (H.l 0 rfl)) fun a w H F=>xG ⟨⟨_,H⟩,?_⟩);refine qP 11 rfl (by kernel_rfl) (xN F rfl (fun w l=>iC F rfl) fun a F=>qP 12 rfl (by kernel_rfl) (xN F rfl (fun w l=>qU F rfl) fun a F=>vP (by kernel_rfl) (xH (xP ?_))));have H:=(f.1 H (Ns.all ⟨n0,trivial⟩));refine xR F rfl (xX F rfl) ?_;obtain rfl:=oj d;exact⟨rfl,H.bl⟩
def jB (N:Nat) (c:Template) (d:Instance) (e:List Int):Option Int:=
 xZ (zU d.cons (fun f=>cF N f (Template.mk c.size c.rels) e)) fun h=>
 some h
theorem wP {B:Nat→Prop} {N:Nat} {n:Template} {p:Instance} {t:List Int} (r:Int) (e:jB N n p t=some r) {f:Value} {i:Value} {j:Value} (d:World) (A:∀ c,B c→c<d.heap.size) (C:Bo B d (kJ 2 xJ) f n) (D:Bo B d (kJ 2 xK) i p) (x:Bo B d (Sl 1 xI) j t):Calls Tryz.prog 54 #[f,i,j] d (gF r d):=by
 unfold jB at e
 refine xW (L:=[(0,f),(1,i),(2,j)]) func54 rfl rfl rfl (sc rfl (sc rfl (sc rfl sn))) (fun a F=>?_);have H:=Sep.start A;refine xV ?_;obtain⟨O,rfl,E,G⟩:=xJ.o C;refine oX F rfl rfl rfl H (fun a w P H F=>?_);obtain⟨M,rfl,Q,I⟩:=xK.o D;refine oX F rfl rfl rfl H fun a w R H F=>oX F rfl rfl (lY (H.a x).one) H fun a w S H F=>xA 1 F rfl fun a F=>vE (oD aD F rfl rfl rfl fun a F=>oB isAgg27 F rfl rfl (H.b 1 rfl) rfl fun a F=>rF F rfl rfl rfl (fun a F=>?_));obtain⟨J,K,e⟩:=xB e;refine oKI F rfl call96 rfl H (eB J K _ aA (H.a I) call97 (fun T r h W l1 U f0=>sN r h W aA f0 ((xJ.b (H.g 2 rfl).bk E (H.a G)).w l1) ((c1S (H.g 0 rfl).bk (H.a x)).w l1))) fun a w H y F=>xA 1 F rfl fun a F=>xG (xP (xR F rfl (xX F rfl) ?_));obtain rfl:=oj e;exact⟨⟨rfl,H.bl⟩,y⟩
def eK (N:Nat) (c:Template) (d:Instance) (e:List Int):Option (Int×Int):=
 xZ (kM (Template.mk c.size c.rels) (Instance.mk d.vars d.cons)) fun f=>
 if (!f) then
  some (0,1)
 else
  xZ (zO c.size e d.vars) fun h=>
  if (!h) then
   some (0,2)
  else
   xZ (jB N (Template.mk c.size c.rels) (Instance.mk d.vars d.cons) e) fun i=>
   some (i,0)
theorem pI {B:Nat→Prop} {N:Nat} {x:Template} {y:Instance} {A:List Int} (r:Int×Int) (d:eK N x y A=some r) {i:Value} {j:Value} {n:Value} (e:World) (I:∀ c,B c→c<e.heap.size) (J:Bo B e (kJ 2 xJ) i x) (K:Bo B e (kJ 2 xK) j y) (C:Bo B e (Sl 1 xI) n A):Calls Tryz.prog 30 #[i,j,n] e (Gv (fun v w'=>v= .tuple #[xC r.1,xC r.2]∧Sep [] B e w' []∧xO r.1∧xO r.2)):=by
 unfold eK at d
 refine xW (L:=[(0,i),(1,j),(2,n)]) func30 rfl rfl rfl (sc rfl (sc rfl (sc rfl sn))) (fun a F=>?_);have H:=Sep.start I;refine xV ?_;obtain⟨U,rfl,p,D⟩:=xJ.o J;refine oX F rfl rfl rfl H (fun a w V H F=>?_);obtain⟨T,rfl,t,E⟩:=xK.o K;refine oX F rfl rfl rfl H fun a w W H F=>xA 2 F rfl fun a F=>xG (xF (oQ (xV (fJ isAgg26 sizeOf26 F rfl rfl (H.b 1 rfl) rfl rfl fun a F=>fJ isAgg29 sizeOf29 F rfl rfl (H.b 0 rfl) rfl rfl (fun a F=>?_)))));obtain⟨M,O,d⟩:=xB d;refine oK F rfl call46 rfl H (eV M O _ aA (xJ.m p (H.a D)) (xK.m t (H.a E))) fun a w H F=>xA 2 F rfl fun a F=>xG (qS F rfl (fun f=>?_) (fun f=>?_))
 ·
  replace d:=vY f d;refine xV (xA 2 F rfl fun a F=>xG (xP (vO (oJ (vV F rfl (xX F rfl) (xX F rfl) ?_)))));obtain rfl:=oj d;exact⟨_,rfl,rfl,(H.s [] rfl rfl),(show xO (0) by decide),(show xO (1) by decide)⟩
 replace d:=vX f d;refine xV (oD lD F rfl rfl rfl fun a F=>oB isAgg2 F rfl rfl (H.b 1 rfl) rfl fun a F=>xA 1 F rfl fun a F=>oD fH F rfl rfl rfl fun a F=>oB isAgg2 F rfl rfl (H.b 0 rfl) rfl (fun a F=>?_));obtain⟨P,Q,d⟩:=xB d;refine oK F rfl call53 rfl H (fB P Q _ aA p (H.a C) t) fun a w H F=>xA 2 F rfl fun a F=>xG (qS F rfl (fun h=>?_) (fun h=>?_))
 ·
  replace d:=vY h d;refine xV (xA 2 F rfl fun a F=>xG (xP (vO (oJ (vV F rfl (xX F rfl) (xX F rfl) ?_)))));obtain rfl:=oj d;exact⟨_,rfl,rfl,(H.s [] rfl rfl),(show xO (0) by decide),(show xO (2) by decide)⟩
 replace d:=vX h d;refine xS (vK (xH (xV (fJ isAgg26 sizeOf26 F rfl rfl (H.b 1 rfl) rfl rfl fun a F=>fJ isAgg29 sizeOf29 F rfl rfl (H.b 0 rfl) rfl rfl fun a F=>xA 1 F rfl fun a F=>?_))));obtain⟨R,S,d⟩:=xB d;refine oKI F rfl call54 rfl H (wP R S _ aA (xJ.m p (H.a D)) (xK.m t (H.a E)) (H.a C)) fun a w H G F=>xA 2 F rfl fun a F=>xG (xP (vV F rfl (xX F rfl) (xX F rfl) ?_));obtain rfl:=oj d;exact⟨_,rfl,rfl,(H.s [] rfl rfl),G,(show xO (0) by decide)⟩
def dZ (N:Nat) (d:Template) (e:Instance) (f:List Int):Option (Bool×Int):=
 xZ (eK N (Template.mk d.size d.rels) (Instance.mk e.vars e.cons) f) fun c=>
 zW (σ:=Bool×Int) (
  if (c.2==0) then  some (.nx ((decide (c.1<0)),c.2)) else  some (.nx (false,c.2))) fun(h,i)=>
 some (h,i)
theorem rW {B:Nat→Prop} {N:Nat} {x:Template} {y:Instance} {A:List Int} (r:Bool×Int) (d:dZ N x y A=some r) {j:Value} {n:Value} {p:Value} (e:World) (E:∀ c,B c→c<e.heap.size) (G:Bo B e (kJ 2 xJ) j x) (I:Bo B e (kJ 2 xK) n y) (J:Bo B e (Sl 1 xI) p A):Calls Tryz.prog 13 #[j,n,p] e (Gv (fun v w'=>v= .tuple #[.bool r.1,xC r.2]∧Sep [] B e w' []∧xO r.2)):=by
 unfold dZ at d
 refine xW (L:=[(0,j),(1,n),(2,p)]) func13 rfl rfl rfl (sc rfl (sc rfl (sc rfl sn))) (fun a F=>?_);have H:=Sep.start E;refine xV ?_;obtain⟨X,rfl,K,M⟩:=xJ.o G;refine oX F rfl rfl rfl H (fun a w Y H F=>?_);obtain⟨V,rfl,O,P⟩:=xK.o I;refine oX F rfl rfl rfl H fun a w Z H F=>xA 2 F rfl fun a F=>vE (fJ isAgg26 sizeOf26 F rfl rfl (H.b 1 rfl) rfl rfl fun a F=>fJ isAgg29 sizeOf29 F rfl rfl (H.b 0 rfl) rfl rfl fun a F=>xA 1 F rfl fun a F=>?_);obtain⟨h,Q,d⟩:=xB d;refine oG F rfl call30 rfl (pI h Q _ aA (xJ.m K (H.a M)) (xK.m O (H.a P)) (H.a J)) (fun a R w ⟨W,S,i3,C⟩ F=>?_);subst R;have H:=H.r0 S;refine xA 5 F rfl fun a F=>xG (xF ?_);obtain⟨T,d,D⟩:=xT d;refine oR (fun a w=>∃ (t:Bool) (i:Int),T= .nx (t,i)∧Sk a 24 [(6,.bool t),(7,xC i)]∧Sep [] B e w []∧xO i) ?_ ?_
 ·
  refine oM (xA 3 F rfl fun a F=>?_)
  rcases vJ (h.2==0) with f | f
  ·
   replace d:=vY f d;have F:=F.eb 19 rfl f;refine xA 6 F rfl fun a F=>xG ?_;exact⟨(decide (h.1<0)),h.2,(zL d),F.su,(H.s [] rfl rfl),C⟩
  replace d:=vX f d;have F:=F.eb 19 rfl f;refine xA 6 F rfl fun a F=>xG ?_;exact⟨false,h.2,(zL d),F.su,(H.s [] rfl rfl),C⟩
 rintro a w ⟨t,i,rfl,F,H,U⟩
 have d:=xY D;refine xH (xP (vV F rfl (xX F rfl) (xX F rfl) ?_));obtain rfl:=oj d;exact⟨_,rfl,rfl,H,U⟩
def fV (c:Template) (d:Instance):Option (Int×(List Rel)×Int×(List Con)×(List (List (List Int)))×(List Literal)):=
 xZ (kS (Template.mk c.size c.rels) (Instance.mk d.vars d.cons)) fun e=>
 some ((c.size,c.rels,d.vars,d.cons,[e],[(Literal.mk 0 0)]))
theorem sA {B:Nat→Prop} {f:Template} {h:Instance} (r:(Int×(List Rel)×Int×(List Con)×(List (List (List Int)))×(List Literal))) (C:fV f h=some r) {I:Value} {J:Value} (d:World) (hN:∀ c,B c→c<d.heap.size) (A0:Bo B d (kJ 2 xJ) I f) (A1:Bo B d (kJ 2 xK) J h):Calls Tryz.prog 55 #[I,J] d (Gv (fun v w'=>∃ (T:Nat) (U V W X:Value),v=qC T∧Sep [] B d w' [bx T [xC r.1,U,xC r.2.2.1,V,W,X] 85,rl 1 (qK 1 (qK 1 xI)) 55 W r.2.2.2.2.1,rl 2 oE 160 X r.2.2.2.2.2]∧xO r.1∧Bo B d (Sl 2 qG) U r.2.1∧xO r.2.2.1∧Bo B d (Sl 2 qH) V r.2.2.2.1)):=by
 unfold fV at C
 refine xW (L:=[(0,I),(1,J)]) func55 rfl rfl rfl (sc rfl (sc rfl sn)) (fun a F=>?_);have H:=Sep.start hN;refine xV ?_;obtain⟨t,rfl,K,M⟩:=xJ.o A0;refine oX F rfl rfl rfl H (fun a w b1 H F=>?_);obtain⟨p,rfl,N,O⟩:=xK.o A1;refine oX F rfl rfl rfl H fun a w b2 H F=>xA 1 F rfl fun a F=>xG (xF ?_);obtain⟨i,Z,C⟩:=xB C;obtain⟨w1,rfl⟩:∃ x,x=w:=⟨_,rfl⟩;have ai:=H.sm;obtain⟨X1,N1,g1,A,H,a6,aj⟩:=H.mg.fza;have K1:=g1.l.bk;have K2:=g1.r.bk;refine xD H (by kernel_rfl) fun w H=>dp (fun G=>∀ (j n:Value) (a:Act) (w:World),Sk a 15 [(4,(.pointer none)),(5,(.agg #[xC f.size,t])),(6,(.agg #[xC h.vars,p])),(10,j),(12,n)]→Sep X1 N1 w1 w [rl 1 (qK 1 (qK 1 xI)) 55 j ([i]),rl 2 oE 160 n ([(Literal.mk 0 0)])]→∀ e,e = #[true,true,true,true,true,true,true,true,false,false,false]→G 3 e a w) ?_ (fun Y=>?_)
 ·
  intro j n a w F H e E;subst E;refine xE H 8 rfl (by kernel_rfl) (xDg (cs:=#[xC f.size,t,xC h.vars,p,j,n]) (qs:=[(0,[xC f.size,t]),(2,[xC h.vars,p]),(4,[j]),(5,[n])]) underlying85 zeroValue85 (fun w=>by simp [sizeOf26,sizeOf29,sizeOf82,sizeOf83];rfl) F rfl rfl rfl rfl rfl ⟨rfl,rfl,Nat.le_of_ble_eq_true rfl,⟨rfl,rfl,Nat.le_of_ble_eq_true rfl,⟨(lY (H.l 0 rfl).one),rfl,Nat.le_of_ble_eq_true rfl,⟨(lY (H.l 1 rfl).one),rfl,Nat.le_of_ble_eq_true rfl,trivial⟩⟩⟩⟩ rfl fun a F=>xG ⟨⟨_,H⟩,?_⟩);refine xE H 9 rfl (by kernel_rfl) (oX F rfl rfl rfl H fun a w b3 H F=>xG ⟨⟨_,H⟩,?_⟩);refine qP 10 rfl (by kernel_rfl) (xN F rfl (fun w l=>qU F rfl) fun a F=>vP (by kernel_rfl) (xH (xP ?_)));have H:=(a6.1 H (Ns.all ⟨n0,⟨n0,⟨n0,trivial⟩⟩⟩)).um;refine xR F rfl (xX F rfl) ?_;obtain rfl:=oj C;exact⟨_,rfl,b3,t,p,j,n,rfl,(H.s [2,3,4] rfl rfl),K,M,N,O⟩
 refine dp (fun G=>∀ (P D:Value) (a:Act) (w:World),Sk a 15 [(4,(.pointer none)),(5,(.agg #[xC f.size,t])),(6,(.agg #[xC h.vars,p])),(9,P),(12,D)]→Sep X1 N1 w1 w [rl 1 (qK 1 xI) 32 P i,rl 2 oE 160 D ([(Literal.mk 0 0)])]→∀ e,e = #[true,true,true,true,true,false,true,true,false,false,false]→G 4 e a w) ?_ (fun H1=>?_)
 ·
  intro P D a w F H e E;subst E;refine xE H 5 rfl (by kernel_rfl) ?_;have H:=H.os;refine dY (R:=(qK 1 (qK 1 xI))) (y:=i) underlying82 sizeOf55 zeroValue55 rfl rfl F rfl rfl H El.sl fun a w v7 H F=>xG ⟨⟨_,H⟩,?_⟩;exact Y v7 D _ _ (F.su) H _ (by kernel_rfl)
 refine oV 0 rfl (by kernel_rfl) (vBA isAgg26 sizeOf26 F rfl rfl (K2.v H.sm) rfl rfl fun a F=>oV 1 rfl (by kernel_rfl) (vBA isAgg29 sizeOf29 F rfl rfl (K1.v H.sm) rfl rfl fun a F=>oV 2 rfl (by kernel_rfl) (vBA isAgg26 sizeOf26 F rfl rfl (K2.v H.sm) rfl rfl fun a F=>oV 3 rfl (by kernel_rfl) (vBA isAgg29 sizeOf29 F rfl rfl (K1.v H.sm) rfl rfl fun a F=>oV 6 rfl (by kernel_rfl) (xN F rfl (fun w l=>jV underlying160 zeroValue160 (fun w=>by simp [sizeOf2];rfl) F rfl rfl rfl rfl on rfl rfl) fun a F=>kH [4,7] (by kernel_rfl) (by simp) ⟨⟨_,rfl,?_⟩,⟨_,rfl,?_⟩,trivial⟩)))))
 ·
  refine kC H (oG F rfl call23 rfl (dW i Z _ aA (xJ.m K (H.a (A M))) (xK.m N (H.a (A O)))) (fun a Q w ⟨v8,ak,S⟩ F=>?_));subst Q;have H:=H.r1 S n0;refine xG ⟨⟨_,H⟩,?_⟩;refine kH [5,7] (by kernel_rfl) (by simp) ⟨⟨_,rfl,?_⟩,⟨_,rfl,?_⟩,trivial⟩
  ·
   refine kC H ?_;have H:=H.os;refine dY (R:=(qK 1 (qK 1 xI))) (y:=i) underlying82 sizeOf55 zeroValue55 rfl rfl F rfl rfl H El.sl fun a w v9 H F=>xG ⟨⟨_,H⟩,?_⟩;refine xE H 7 rfl (by kernel_rfl) (dF (R:=oE) (y:=(Literal.mk 0 0)) underlying83 sizeOf160 zeroValue160 rfl rfl F rfl rfl H (Eo.agg (oE.m (show xO 0 by decide) (show xO 0 by decide))) fun a w a7 H F=>xG ⟨⟨_,H⟩,?_⟩);exact Y v9 a7 _ _ (F.su) (H.s [1,0] rfl rfl) _ (by kernel_rfl)
  refine kC H (dF (R:=oE) (y:=(Literal.mk 0 0)) underlying83 sizeOf160 zeroValue160 rfl rfl F rfl rfl H (Eo.agg (oE.m (show xO 0 by decide) (show xO 0 by decide))) fun a w a8 H F=>xG ⟨⟨_,H⟩,?_⟩);exact H1 v8 a8 _ _ (F.su) (H.s [1,0] rfl rfl) _ (by kernel_rfl)
 refine kC H (dF (R:=oE) (y:=(Literal.mk 0 0)) underlying83 sizeOf160 zeroValue160 rfl rfl F rfl rfl H (Eo.agg (oE.m (show xO 0 by decide) (show xO 0 by decide))) fun a w a9 H F=>xG ⟨⟨_,H⟩,?_⟩);refine xE H 4 rfl (by kernel_rfl) (oG F rfl call23 rfl (dW i Z _ aA (xJ.m K (H.a (A M))) (xK.m N (H.a (A O)))) (fun a Q w ⟨aa,al,S⟩ F=>?_));subst Q;have H:=H.r1 S n0;refine xG ⟨⟨_,H⟩,?_⟩;exact H1 aa a9 _ _ (F.su) H _ (by kernel_rfl)
def cE (f:Template) (d:Instance) (h:List (List Int)) (c:ArcStep):Option Bool:=
 zW (σ:=Bool) (
  xZ (ck (d.vars - 1)) fun i=>
  xZ (kD c.var 0 i) fun j=>
  if (!j) then  some (.nx true) else  xZ (ck ((d.cons.length:Int) - 1)) fun n=>
   xZ (kD c.con 0 n) fun p=>
   if (!p) then  some (.nx true) else  xZ (ix h c.var) fun t=>
    xZ (vG t c.value) fun x=>
    some (.nx (!x))) fun y=>
 if y then
  some false
 else
  xZ (ix d.cons c.con) fun e=>
  zW (σ:=Unit) (
   qR (σ:=Unit) (ρ:=Bool) (fun (A:Nat) (B:Int) (s:Unit)=>
     match s with
     | _=>
     zW (σ:=Bool) (
      if (B==c.var) then  xZ (kP (Template.mk f.size f.rels) (Con.mk e.rel e.scope) h (A:Int) c.value) fun C=>
       some (.nx (!C)) else  some (.nx false)) fun D=>
     if D then
      some (.ret true)
     else
      some (.go ())) e.scope 0 ()) fun _=>
  some false
theorem sP {B:Nat→Prop} {E:Template} {N:Instance} {W:List (List Int)} {e:ArcStep} (r:Bool) (d:cE E N W e=some r) {O:Value} {P:Value} {t:Value} {Q:Value} (f:World) (hN:∀ c,B c→c<f.heap.size) (A0:Bo B f (kJ 2 xJ) O E) (A1:Bo B f (kJ 2 xK) P N) (X:Bo B f (Sl 1 (qK 1 xI)) t W) (A3:Bo B f (kJ 3 oU) Q e):Calls Tryz.prog 101 #[O,P,t,Q] f (kU (.bool r) f):=by
 unfold cE at d
 refine xW (L:=[(0,O),(1,P),(2,t),(3,Q)]) func101 rfl rfl rfl (sc rfl (sc rfl (sc rfl (sc rfl sn)))) (fun a F=>?_);have H:=Sep.start hN;refine xV ?_;obtain⟨R,rfl,i1,h1⟩:=xJ.o A0;refine oX F rfl rfl rfl H (fun a w x H F=>?_);obtain⟨a9,rfl,i2,Y⟩:=xK.o A1;refine oX F rfl rfl rfl H (fun a w Z H F=>?_);obtain⟨rfl,i3,i4,i5⟩:=oU.o A3;refine oX F rfl rfl rfl H fun a w y H F=>xA 1 F rfl fun a F=>xG (xF (xF ?_));obtain⟨o1,d,aa⟩:=xT d;refine oR (fun a w=>∃ (S:Bool),o1= .nx S∧Sk a 69 [(2,t),(4,qC x),(5,qC Z),(7,qC y),(39,.bool S)]∧Sep [] B f w [bx y [xC e.var,xC e.value,xC e.con] 152,bx Z [xC N.vars,a9] 29,bx x [xC E.size,R] 26]) ?_ ?_
 ·
  refine xQ H (by kernel_rfl) (by kernel_rfl) (xM F rfl (fun w l=>xU rQ F rfl rfl) fun a F=>qB isAgg2 F rfl rfl (H.qb 0 rfl) rfl fun a F=>xM F rfl (fun w l=>xU fH F rfl rfl) fun a F=>qB isAgg2 F rfl rfl (H.qb 1 rfl) rfl (fun a F=>?_));obtain⟨z1,c1,d⟩:=xB d;refine xM F rfl (fun w l=>mX F rfl rfl c1) (fun a F=>?_);obtain⟨z2,c2,d⟩:=xB d;refine fG F rfl call47 rfl (fun w w' h l=>l.through h) (fun w l=>aJ z2 c2 w aA i3 (show xO (0) by decide) (kQ c1)) fun a F=>xM F rfl (fun w l=>iC F rfl) fun a F=>xM F rfl (fun w l=>xL F rfl) (fun a F=>?_)
  rcases vJ (!z2) with A | A
  ·
   replace d:=vY A d;have F:=F.eb 19 rfl A;refine qD F rfl rfl fun a F=>qD F rfl rfl fun a F=>qD F rfl rfl fun a F=>qD F rfl rfl fun a F=>qD F rfl rfl fun a F=>qD F rfl rfl fun a F=>qD F rfl rfl fun a F=>qD F rfl rfl fun a F=>xM F rfl (fun w l=>aX F rfl rfl) fun a F=>xM F rfl (fun w l=>xL F rfl) fun a F=>qD F rfl rfl (fun a F=>?_);refine qD F rfl rfl fun a F=>qD F rfl rfl fun a F=>qD F rfl rfl fun a F=>qD F rfl rfl fun a F=>qD F rfl rfl fun a F=>qD F rfl rfl fun a F=>qD F rfl rfl fun a F=>qD F rfl rfl fun a F=>xM F rfl (fun w l=>aX F rfl rfl) fun a F=>kT fun w H=>xH ?_;exact⟨true,(zL d),F.su,H⟩
  replace d:=vX A d;have F:=F.eb 19 rfl A;refine xM F rfl (fun w l=>xU uC F rfl rfl) fun a F=>qB isAgg2 F rfl rfl (H.qb 0 rfl) rfl fun a F=>xM F rfl (fun w l=>xU aD F rfl rfl) fun a F=>qB isAgg27 F rfl rfl (H.qb 1 rfl) rfl fun a F=>qL underlying27 F rfl rfl Y (fun a i6 F=>?_);obtain⟨z3,c3,d⟩:=xB d;refine xM F rfl (fun w l=>mX F rfl rfl c3) (fun a F=>?_);obtain⟨z4,c4,d⟩:=xB d;refine fG F rfl call47 rfl (fun w w' h l=>l.through h) (fun w l=>aJ z4 c4 w aA i5 (show xO (0) by decide) (kQ c3)) fun a F=>xM F rfl (fun w l=>iC F rfl) fun a F=>xM F rfl (fun w l=>bO F rfl rfl) fun a F=>xM F rfl (fun w l=>xL F rfl) (fun a F=>?_)
  rcases vJ (!z4) with C | C
  ·
   replace d:=vY C d;have F:=F.eb 29 rfl C;refine qD F rfl rfl fun a F=>qD F rfl rfl fun a F=>qD F rfl rfl fun a F=>qD F rfl rfl fun a F=>qD F rfl rfl fun a F=>qD F rfl rfl fun a F=>qD F rfl rfl fun a F=>qD F rfl rfl fun a F=>qD F rfl rfl fun a F=>xM F rfl (fun w l=>aX F rfl rfl) fun a F=>kT (fun w H=>?_);refine xH ?_;exact⟨true,(zL d),F.su,H⟩
  replace d:=vX C d;have F:=F.eb 29 rfl C;refine xM F rfl (fun w l=>xL F rfl) fun a F=>xM F rfl (fun w l=>xU rQ F rfl rfl) fun a F=>qB isAgg2 F rfl rfl (H.qb 0 rfl) rfl (fun a F=>?_);obtain⟨z5,c5,d⟩:=xB d;refine qI underlying55 sizeOf32 F rfl rfl rfl X c5 fun a p1 h3 F=>qlS isAgg32 F rfl rfl H.q h3 fun a v5 h4 F=>xM F rfl (fun w l=>xU uB F rfl rfl) fun a F=>qB isAgg2 F rfl rfl (H.qb 0 rfl) rfl (fun a F=>?_);obtain⟨z6,ab,d⟩:=xB d;refine fG F rfl call100 rfl (fun w w' h l=>l.through h) (fun w l=>aT z6 ab w aA ((H.go l).a h4) i4) fun a F=>xM F rfl (fun w l=>iC F rfl) fun a F=>xM F rfl (fun w l=>bO F rfl rfl) fun a F=>kT fun w H=>xH ?_;exact⟨(!z6),(zL d),F.su,H⟩
 rintro a w ⟨S,rfl,F,H⟩
 have d:=xY aa;refine xH (qS F rfl (fun K=>?_) (fun K=>?_))
 ·
  replace d:=vY K d;refine xV (xA 1 F rfl fun a F=>xG (xP (oJ (xR F rfl (xX F rfl) ?_))));obtain rfl:=oj d;exact⟨rfl,H.bl⟩
 replace d:=vX K d;refine xS (xH (xV (oD aD F rfl rfl rfl fun a F=>oB isAgg27 F rfl rfl (H.b 1 rfl) rfl fun a F=>oD uC F rfl rfl rfl fun a F=>oB isAgg2 F rfl rfl (H.b 0 rfl) rfl (fun a F=>?_))));obtain⟨j,c6,d⟩:=xB d;refine oI underlying27 sizeOf60 F rfl rfl rfl Y c6 fun a p2 h5 F=>olA isAgg60 sizeOf60 F rfl rfl H.sm h5 fun a v6 h6 F=>oA zeroValue60 F rfl rfl H (fun a w I H F=>?_);obtain⟨G,rfl,i7,J⟩:=qH.o h6;refine eX (vs:=[xC j.rel,G]) sizeOf60 F rfl rfl rfl H (oc rfl (oc (H.a J).one on)) rfl rfl fun w H=>xG (xF (xV (oD dD F rfl rfl rfl fun a F=>oB isAgg32 F rfl rfl (H.b 0 rfl) rfl fun a F=>oL underlying32 F rfl rfl J fun a i8 F=>xA 1 F rfl fun a F=>zE ?_)));refine xH ?_;obtain⟨o2,d,U⟩:=xT d;refine oR (fun a w=>o2= .nx ()∧Sk a 69 []∧Sep [] B f w []) ?_ ?_
 ·
  refine oQ ?_;obtain⟨ac,ad,d⟩:=qZ d;refine qY (fun g a w=>∃ (n:Nat) (p:List Int),(n≤j.scope.length∧j.scope.drop n=p)∧p.length=g∧qR ac p n ()=some o2∧Sk a 69 [(49,xC (n:Int)),(2,t),(4,qC x),(7,qC y),(9,qC I),(47,G),(48,xC (j.scope.length:Int))]∧Sep [] B f w [bx I [xC j.rel,G] 60,bx y [xC e.var,xC e.value,xC e.con] 152,bx x [xC E.size,R] 26]) j.scope.length ?_ ?_
  ·
   exact⟨0,j.scope,⟨Nat.zero_le _,rfl⟩,rfl,d,F.su,(H.s [0,1,3] rfl rfl)⟩
  intro g1 a w ⟨n,p,i,ae,d,F,H⟩
  cases p with
  | nil=>
   replace d:=vA d;have q1:=vC i.1 i.2;have l1:=zK q1;refine xV (xA 1 F rfl fun a F=>xG (xF (zS F rfl l1 (qV (qX (qX (kF ?_)))))));refine xH ?_;exact⟨(zL d),F.sub sn,(H.s [] rfl rfl)⟩
  | cons x4 p=>
   subst ae;replace i:=qE i.2;have y1:=vH i.2.1;obtain⟨b9,d,V⟩:=qM d;rw[ad] at d;have l1:=vR i.1;refine xV (xA 1 F rfl fun a F=>xG (xF (zQ F rfl l1 (xS (xH (xF ?_))))));have j1:=k64 (Nat.le_of_lt i.1) i8;have m1:=kO i.1 i8;refine oQ (xV (xA 1 F rfl fun a F=>oI underlying32 sizeOf2 F rfl rfl rfl J y1 fun a p3 h8 F=>olI isAgg2 F rfl rfl H.sm h8 fun a i9 F=>xA 2 F rfl fun a F=>xG (xF ?_)));obtain⟨o3,d,af⟩:=xT d;refine oR (fun a w=>∃ (T:Bool),o3= .nx T∧Sk a 69 [(2,t),(4,qC x),(7,qC y),(9,qC I),(47,G),(48,xC (j.scope.length:Int)),(49,xC (n:Int)),(67,.bool T)]∧Sep [] B f w [bx I [xC j.rel,G] 60,bx y [xC e.var,xC e.value,xC e.con] 152,bx x [xC E.size,R] 26]) ?_ ?_
   ·
    refine oM (xA 1 F rfl fun a F=>oD rQ F rfl rfl rfl fun a F=>oB isAgg2 F rfl rfl (H.b 1 rfl) rfl fun a F=>xA 2 F rfl fun a F=>?_)
    rcases vJ (x4==e.var) with D | D
    ·
     replace d:=vY D d;have F:=F.eb 58 rfl D;refine fJ isAgg26 sizeOf26 F rfl rfl (H.b 2 rfl) rfl rfl fun a F=>fJ isAgg60 sizeOf60 F rfl rfl (H.b 0 rfl) rfl rfl fun a F=>xA 2 F rfl fun a F=>oD uB F rfl rfl rfl fun a F=>oB isAgg2 F rfl rfl (H.b 1 rfl) rfl (fun a F=>?_);obtain⟨z8,c7,d⟩:=xB d;refine oK F rfl call133 rfl H (jU z8 c7 _ aA (xJ.m i1 (H.a h1)) (qH.m i7 (H.a J)) (H.a X) j1 i4) fun a w H F=>xA 2 F rfl fun a F=>xG ?_;exact⟨(!z8),(zL d),F.su,H⟩
    replace d:=vX D d;have F:=F.eb 58 rfl D;refine xA 9 F rfl fun a F=>xG ?_;exact⟨false,(zL d),F.su,H⟩
   rintro a w ⟨T,rfl,F,H⟩
   have d:=xY af;refine xH (qS F rfl (fun M=>?_) (fun M=>?_))
   ·
    replace d:=vY M d;refine xV (xA 1 F rfl fun a F=>xG (xP (vO (oJ (oJ ?_)))));replace d:=kK d V;refine vO (oJ ?_);replace d:=kI d U;refine oJ (xR F rfl (xX F rfl) ?_);obtain rfl:=oj d;exact⟨rfl,H.bl⟩
   replace d:=vX M d;refine xS (vK (xH (oM (zG F rfl rfl rfl m1 fun a F=>xA 1 F rfl fun a F=>xG ?_))));replace d:=zM d V;exact⟨_,Nat.lt_succ_self _,n+1,p,⟨i.1,i.2.2⟩,rfl,d,F.su,H⟩
 rintro a w ⟨rfl,F,H⟩
 have d:=xY U;refine xH (xV (xA 1 F rfl fun a F=>xG (xP (xR F rfl (xX F rfl) ?_))));obtain rfl:=oj d;exact⟨rfl,H.bl⟩
def zI (N:Nat) (B:Int) (C:List Rel) (n:Int) (D:List Con) (d:List (List (List Int))) (e:List Literal) (c:Line):Option (Bool×(List (List (List Int)))×(List Literal)):=
 xZ (ck ((d.length:Int) - 1)) fun f=>
 zW (σ:=Bool) (
  if (decide (f<0)) then  some (.nx true) else  xZ (ck (n - 1)) fun L=>
   xZ (kD c.var 0 L) fun M=>
   some (.nx (!M))) fun O=>
 if O then
  some (false,d,e)
 else
  xZ (ix d f) fun h=>
  if (c.kind==1) then
   zW (σ:=Bool) (
    xZ (ix h c.var) fun y=>
    xZ (vG y c.value) fun P=>
    if (!P) then  some (.nx true) else  some (.nx (decide ((y.length:Int)<2)))) fun Q=>
   if Q then
    some (false,d,e)
   else
    xZ (dA h) fun A=>
    xZ (ix A c.var) fun S=>
    xZ (ap d ([(A.set (c.var).toNat ([c.value]))])) fun R=>
    xZ (ap e ([(Literal.mk c.var c.value)])) fun E=>
    some (true,R,E)
  else
   if (c.kind==2) then
    xZ (cE (Template.mk B C) (Instance.mk n D) h (ArcStep.mk c.var c.value c.con)) fun F=>
    if (!F) then
     some (false,d,e)
    else
     xZ (ix h c.var) fun G=>
     xZ (kR N G c.value) fun H=>
     some (true,(d.set (f).toNat (h.set (c.var).toNat H)),e)
   else
    if (c.kind==3) then
     xZ (ix h c.var) fun I=>
     if (decide (0<(I.length:Int))) then
      some (false,d,e)
     else
      xZ (ix e f) fun i=>
      xZ (sl d 0 f) fun j=>
      xZ (sl e 0 f) fun p=>
      if (decide (0<f)) then
       xZ (ck (f - 1)) fun t=>
       xZ (ix j t) fun x=>
       xZ (ix x i.var) fun J=>
       xZ (kR N J i.value) fun K=>
       some (true,(j.set (t).toNat (x.set (i.var).toNat K)),p)
      else
       some (true,j,p)
    else
     some (false,d,e)
theorem pK {B:Nat→Prop} {N:Nat} {t:Int} {c0:List Rel} {A:Int} {x0_3:List Con} {J:List (List (List Int))} {E:List Literal} {e:Line} (r:Bool×(List (List (List Int)))×(List Literal)) (d:zI N t c0 A x0_3 J E e=some r) {f:Nat} {C:Value} {D:Value} {n:Value} {j:Value} {v1:Value} {Y:List Nat} (K:World) (hN:∀ c,B c→c<K.heap.size) (S0:Sep Y B K K [bx f [xC t,C,xC A,D,n,j] 85,rl 1 (qK 1 (qK 1 xI)) 55 n J,rl 2 oE 160 j E]) (cp:xO t) (cq:Bo B K (Sl 2 qG) C c0) (cr:xO A) (cs:Bo B K (Sl 2 qH) D x0_3) (A1:Bo B K (kJ 4 oP) v1 e):Calls Tryz.prog 56 #[qC f,v1] K (Gv (fun v w'=>∃ (v1' c3:Value),v= .bool r.1∧Sep Y B K w' [bx f [xC t,C,xC A,D,v1',c3] 85,rl 1 (qK 1 (qK 1 xI)) 55 v1' r.2.1,rl 2 oE 160 c3 r.2.2])):=by
 unfold zI at d
 refine xW (L:=[(0,qC f),(1,v1)]) func56 rfl rfl rfl (sc rfl (sc rfl sn)) (fun a F=>?_);have H:=S0;refine xV ?_;obtain⟨rfl,i1,U,M,i4⟩:=oP.o A1;refine oX F rfl rfl rfl H fun a w b1 H F=>xA 1 F rfl fun a F=>vE (xA 1 F rfl fun a F=>qJ F rfl rfl fun a F=>oD mC F rfl rfl rfl fun a F=>oB isAgg82 F rfl rfl (H.b 1 rfl) rfl fun a F=>oL underlying82 F rfl rfl (H.l 2 rfl) (fun a fc F=>?_));obtain⟨W,c1,d⟩:=xB d;refine fL F rfl rfl rfl c1 fun a F=>xA 1 F rfl fun a F=>xG (xF (xF ?_));obtain⟨o1,d,ct⟩:=xT d;refine oR (fun a w=>∃ (s1:Bool),o1= .nx s1∧Sk a 180 [(0,qC f),(3,qC b1),(5,xC W),(29,.bool s1)]∧Sep Y B K w [bx b1 [xC e.kind,xC e.var,xC e.value,xC e.con] 77,bx f [xC t,C,xC A,D,n,j] 85,rl 1 (qK 1 (qK 1 xI)) 55 n J,rl 2 oE 160 j E]) ?_ ?_
 ·
  refine xQ H (by kernel_rfl) (by kernel_rfl) (xM F rfl (fun w l=>xL F rfl) fun a F=>xM F rfl (fun w l=>mT F rfl rfl) fun a F=>xM F rfl (fun w l=>xL F rfl) (fun a F=>?_))
  rcases vJ (decide (W<0)) with a1 | a1
  ·
   replace d:=vY a1 d;have F:=F.eb 18 rfl a1;refine qD F rfl rfl fun a F=>qD F rfl rfl fun a F=>qD F rfl rfl fun a F=>qD F rfl rfl fun a F=>qD F rfl rfl fun a F=>qD F rfl rfl fun a F=>qD F rfl rfl fun a F=>qD F rfl rfl fun a F=>qD F rfl rfl fun a F=>qD F rfl rfl fun a F=>xM F rfl (fun w l=>aX F rfl rfl) (fun a F=>?_);refine kT fun w H=>xH ?_;exact⟨true,(zL d),F.su,H⟩
  replace d:=vX a1 d;have F:=F.eb 18 rfl a1;refine xM F rfl (fun w l=>xU iS F rfl rfl) fun a F=>qB isAgg2 F rfl rfl (H.qb 0 rfl) rfl fun a F=>xM F rfl (fun w l=>xL F rfl) fun a F=>xM F rfl (fun w l=>oY F rfl) fun a F=>xM F rfl (fun w l=>xU xJv F rfl rfl) fun a F=>xM F rfl (fun w l=>xU fH F rfl rfl) fun a F=>qB isAgg2 F rfl rfl (H.qb 1 rfl) rfl (fun a F=>?_);obtain⟨z2,c2,d⟩:=xB d;refine xM F rfl (fun w l=>mX F rfl rfl c2) (fun a F=>?_);obtain⟨z3,cu,d⟩:=xB d;refine fG F rfl call47 rfl (fun w w' h l=>l.through h) (fun w l=>aJ z3 cu w aA U (show xO (0) by decide) (kQ c2)) fun a F=>xM F rfl (fun w l=>iC F rfl) fun a F=>xM F rfl (fun w l=>bO F rfl rfl) fun a F=>kT fun w H=>xH ?_;exact⟨(!z3),(zL d),F.su,H⟩
 rintro a w ⟨s1,rfl,F,H⟩
 have d:=xY ct;refine xH (qS F rfl (fun az=>?_) (fun az=>?_))
 ·
  replace d:=vY az d;refine xV (xA 1 F rfl fun a F=>xG (xP (oJ (xR F rfl (xX F rfl) ?_))));obtain rfl:=oj d;exact⟨_,rfl,n,j,rfl,(H.s [1,2,3] rfl rfl)⟩
 replace d:=vX az d;refine xS (xH (xV (xA 1 F rfl fun a F=>qJ F rfl rfl fun a F=>oD mC F rfl rfl rfl fun a F=>oB isAgg82 F rfl rfl (H.b 1 rfl) rfl fun a F=>xA 1 F rfl fun a F=>?_)));obtain⟨z4,Z,d⟩:=xB d;refine oRl underlying82 sizeOf55 F rfl rfl rfl H 2 rfl Z fun a p1 h1 cx F=>tL isAgg55 F rfl rfl (H.s [2,0,1,3] rfl rfl) cx (eI Z) fun a b0 H hl40 F=>xA 1 F rfl fun a F=>xG (xF (xV (oD xBe F rfl rfl rfl fun a F=>oB isAgg2 F rfl rfl (H.b 2 rfl) rfl fun a F=>zE ?_)));refine xH (oQ (xV (xA 2 F rfl fun a F=>xG (qS F rfl (fun hb3=>?_) (fun hb3=>?_)))))
 ·
  replace d:=vY hb3 d;refine xF (xF ?_);obtain⟨o2,d,cy⟩:=xT d;refine oR (fun a w=>∃ (s2:Bool),o2= .nx s2∧Sk a 180 [(0,qC f),(3,qC b1),(6,b0),(58,.bool s2)]∧Sep Y B K w [ow (V:=(Sl 1 (qK 1 xI))) b0 z4,rl 1 (RS 1 (qK 1 xI)) 55 n ((J.map .inr).set (W).toNat (.inl b0)),bx b1 [xC e.kind,xC e.var,xC e.value,xC e.con] 77,bx f [xC t,C,xC A,D,n,j] 85,rl 2 oE 160 j E]) ?_ ?_
  ·
   refine xQ H (by kernel_rfl) (by kernel_rfl) (xM F rfl (fun w l=>xL F rfl) fun a F=>xM F rfl (fun w l=>xU iS F rfl rfl) fun a F=>qB isAgg2 F rfl rfl (H.qb 2 rfl) rfl (fun a F=>?_));obtain⟨z5,c4,d⟩:=xB d;refine qI underlying55 sizeOf32 F rfl rfl rfl (H.o 0 rfl) c4 fun a fd h2 F=>qlS isAgg32 F rfl rfl qA h2 fun a v2 h3 F=>xM F rfl (fun w l=>xU nO F rfl rfl) fun a F=>qB isAgg2 F rfl rfl (H.qb 2 rfl) rfl (fun a F=>?_);obtain⟨z6,c5,d⟩:=xB d;refine fG F rfl call100 rfl (fun w w' h l=>l.through h) (fun w l=>aT z6 c5 w aA (h3.w l) M) fun a F=>xM F rfl (fun w l=>iC F rfl) fun a F=>xM F rfl (fun w l=>xL F rfl) (fun a F=>?_)
   rcases vJ (!z6) with a2 | a2
   ·
    replace d:=vY a2 d;have F:=F.eb 50 rfl a2;refine qD F rfl rfl fun a F=>qD F rfl rfl fun a F=>qD F rfl rfl fun a F=>qD F rfl rfl fun a F=>qD F rfl rfl fun a F=>qD F rfl rfl fun a F=>qD F rfl rfl fun a F=>xM F rfl (fun w l=>aX F rfl rfl) fun a F=>kT fun w H=>xH ?_;exact⟨true,(zL d),F.su,H⟩
   replace d:=vX a2 d;have F:=F.eb 50 rfl a2;refine xM F rfl (fun w l=>xL F rfl) fun a F=>xM F rfl (fun w l=>xU iS F rfl rfl) fun a F=>qB isAgg2 F rfl rfl (H.qb 2 rfl) rfl fun a F=>qI underlying55 sizeOf32 F rfl rfl rfl (H.o 0 rfl) c4 fun a p2 h4 F=>qlS isAgg32 F rfl rfl qA h4 fun a v3 h5 F=>qL underlying32 F rfl rfl h5 fun a i5 F=>xM F rfl (fun w l=>mT F rfl rfl) fun a F=>xM F rfl (fun w l=>bO F rfl rfl) fun a F=>kT fun w H=>xH ?_;exact⟨(decide ((z5.length:Int)<2)),(zL d),F.su,H⟩
  rintro a w ⟨s2,rfl,F,H⟩
  have d:=xY cy;refine xH (qS F rfl (fun b2=>?_) (fun b2=>?_))
  ·
   replace d:=vY b2 d;refine xF ?_;have H:=Sep.unfoc0 hl40 (eI Z) H;refine oM (xA 1 F rfl fun a F=>xG (xP (oJ (vO (oJ (xR F rfl (xX F rfl) ?_))))));obtain rfl:=oj d;exact⟨_,rfl,n,j,rfl,(H.s [2,0,3] rfl rfl)⟩
  replace d:=vX b2 d;refine xS (xH (xV (xA 1 F rfl fun a F=>?_)));obtain⟨I,c6,d⟩:=xB d;refine oG F rfl call84 rfl (mR I c6 _ aA (H.o 0 rfl)) (fun a vv w ⟨v4,fe,S⟩ F=>?_);subst vv;have H:=H.r1 S n0;refine xA 1 F rfl fun a F=>xG (xF ?_);have H:=Sep.unfoc0 hl40 (eI Z) (H.s [1,2,0,3,4,5] rfl rfl);refine oM (xA 1 F rfl fun a F=>oD iS F rfl rfl rfl fun a F=>oB isAgg2 F rfl rfl (H.b 2 rfl) rfl fun a F=>oD nO F rfl rfl rfl fun a F=>oB isAgg2 F rfl rfl (H.b 2 rfl) rfl fun a F=>dF (R:=xI) (y:=e.value) underlying32 sizeOf2 zeroValue2 rfl rfl F rfl rfl H (Eo.int M) (fun a w v5 H F=>?_));obtain⟨z8,c7,d⟩:=xB d;refine oRl underlying55 sizeOf32 F rfl rfl rfl H 2 rfl c7 fun a p3 h6 cz F=>oSl sizeOf32 F rfl rfl rfl (H.s [2,0,1,3,4,5] rfl rfl) cz (fQ c7) rfl fun w H=>xG (xF ?_);obtain⟨z9,c8,d⟩:=xB d;obtain⟨ff,c9,d⟩:=xB d;obtain⟨O,rfl⟩:∃ x,x=w:=⟨_,rfl⟩;have fg:=H.sm;obtain⟨P,Q,g1,e1,H,d0,fh⟩:=(H.s [2,0,1,3,4] rfl rfl).fza;have K1:=g1.bk;refine xD H (by kernel_rfl) fun w H=>dp (fun G=>∀ (v6 v7:Value) (a:Act) (w:World),Sk a 180 [(0,qC f),(68,qC f),(69,qC f),(76,v6),(80,j),(86,v7)]→Sep P Q O w [rl 1 (qK 1 (qK 1 xI)) 55 v6 z9,rl 2 oE 160 v7 ([(Literal.mk e.var e.value)]),bx f [xC t,C,xC A,D,n,j] 85,rl 2 oE 160 j E]→∀ i,i = #[true,true,true,true,true,true,true,true,true,true,true,true,true,true,true,true,true,true,true,false,false,false,false,false,false,false]→G 7 i a w) ?_ (fun H1=>?_)
  ·
   intro v6 v7 a w F H i p;subst p;refine xE H 19 rfl (by kernel_rfl) (oPL (sz:=2) (R:=oE) (z:=(.agg #[xC 0,xC 0])) (bytes:=16) underlying83 (by kernel_rfl) rfl rfl F rfl rfl rfl (H.s [3,1,0,2] rfl rfl) c9 fun a w v8 H F=>xG ⟨⟨_,H⟩,?_⟩);refine oV 20 rfl (by kernel_rfl) (xN F rfl (fun w l=>oY F rfl) fun a F=>oV 21 rfl (by kernel_rfl) (xN F rfl (fun w l=>xU mC F rfl rfl) fun a F=>xE H 22 rfl (by kernel_rfl) (oW sizeOf82 F rfl rfl rfl (H.s [2,0,1] rfl rfl) ((H.s [2,0,1] rfl rfl).l 2 rfl).one rfl rfl fun w H=>xG ⟨⟨_,H⟩,?_⟩)));refine oV 23 rfl (by kernel_rfl) (xN F rfl (fun w l=>oY F rfl) fun a F=>oV 24 rfl (by kernel_rfl) (xN F rfl (fun w l=>xU wZ F rfl rfl) fun a F=>xE H 25 rfl (by kernel_rfl) (oW sizeOf83 F rfl rfl rfl H (H.l 1 rfl).one rfl rfl fun w H=>xG ⟨⟨_,H⟩,?_⟩)));refine vP (by kernel_rfl) (xH (xV (xA 1 F rfl fun a F=>xG (xP (vO (oJ ?_))))));have H:=(d0.1 H (Ns.all ⟨n0,⟨n0,⟨n0,trivial⟩⟩⟩));refine xR F rfl (xX F rfl) ?_;obtain rfl:=oj d;exact⟨_,rfl,v6,v8,rfl,(H.s [1,3,2] rfl rfl)⟩
  refine dp (fun G=>∀ (v9 ae:Value) (a:Act) (w:World),Sk a 180 [(0,qC f),(68,qC f),(69,qC f),(73,n),(75,v9),(80,j),(86,ae)]→Sep P Q O w [rl 1 (qK 1 (qK 1 xI)) 55 v9 ([(I.set (e.var).toNat ([e.value]))]),rl 2 oE 160 ae ([(Literal.mk e.var e.value)]),rl 1 (qK 1 (qK 1 xI)) 55 n J,bx f [xC t,C,xC A,D,n,j] 85,rl 2 oE 160 j E]→∀ i,i = #[true,true,true,true,true,true,true,true,false,true,true,true,true,true,true,true,true,true,true,false,false,false,false,false,false,false]→G 8 i a w) ?_ (fun H2=>?_)
  ·
   intro v9 ae a w F H i p;subst p;refine xE H 8 rfl (by kernel_rfl) (oPL (sz:=1) (R:=(qK 1 (qK 1 xI))) (z:=(qQ)) (bytes:=24) underlying82 (by kernel_rfl) rfl rfl F rfl rfl rfl (H.s [2,0,1,3,4] rfl rfl) c8 fun a w d1 H F=>xG ⟨⟨_,H⟩,?_⟩);exact H1 d1 ae _ _ (F.su) H _ (by kernel_rfl)
  refine dp (fun G=>∀ (af ag:Value) (a:Act) (w:World),Sk a 180 [(0,qC f),(68,qC f),(69,qC f),(76,af),(79,.pointer (some ⟨f,5,none⟩)),(86,ag)]→Sep P Q O w [rl 1 (qK 1 (qK 1 xI)) 55 af z9,rl 2 oE 160 ag ([(Literal.mk e.var e.value)]),bx f [xC t,C,xC A,D,n,j] 85,rl 2 oE 160 j E]→∀ i,i = #[true,true,true,true,true,true,true,true,true,true,true,true,false,true,true,true,true,true,true,false,false,false,false,false,false,false]→G 8 i a w) ?_ (fun H3=>?_)
  ·
   intro af ag a w F H i p;subst p;refine xE H 12 rfl (by kernel_rfl) (oB isAgg83 F rfl rfl (H.b 2 rfl) rfl fun a F=>xG ⟨⟨_,H⟩,?_⟩);exact H1 af ag _ _ (F.su) H _ (by kernel_rfl)
  refine dp (fun G=>∀ (ah:Value) (a:Act) (w:World),Sk a 180 [(0,qC f),(68,qC f),(69,qC f),(76,ah),(80,j),(85,(.agg #[xC e.var,xC e.value]))]→Sep P Q O w [rl 1 (qK 1 (qK 1 xI)) 55 ah z9,bx f [xC t,C,xC A,D,n,j] 85,rl 2 oE 160 j E]→∀ i,i = #[true,true,true,true,true,true,true,true,true,true,true,true,true,true,true,true,true,true,false,false,false,false,false,false,false,false]→G 8 i a w) ?_ (fun H4=>?_)
  ·
   intro ah a w F H i p;subst p;refine xE H 18 rfl (by kernel_rfl) (dF (R:=oE) (y:=(Literal.mk e.var e.value)) underlying83 sizeOf160 zeroValue160 rfl rfl F rfl rfl H (Eo.agg (oE.m U M)) fun a w d2 H F=>xG ⟨⟨_,H⟩,?_⟩);exact H1 ah d2 _ _ (F.su) (H.s [1,0,2,3] rfl rfl) _ (by kernel_rfl)
  refine dp (fun G=>∀ (ai:Value) (a:Act) (w:World),Sk a 180 [(0,qC f),(68,qC f),(69,qC f),(73,n),(75,ai),(80,j),(85,(.agg #[xC e.var,xC e.value]))]→Sep P Q O w [rl 1 (qK 1 (qK 1 xI)) 55 ai ([(I.set (e.var).toNat ([e.value]))]),rl 1 (qK 1 (qK 1 xI)) 55 n J,bx f [xC t,C,xC A,D,n,j] 85,rl 2 oE 160 j E]→∀ i,i = #[true,true,true,true,true,true,true,true,false,true,true,true,true,true,true,true,true,true,false,false,false,false,false,false,false,false]→G 9 i a w) ?_ (fun H5=>?_)
  ·
   intro ai a w F H i p;subst p;refine kH [8,18] (by kernel_rfl) (by simp) ⟨⟨_,rfl,?_⟩,⟨_,rfl,?_⟩,trivial⟩
   ·
    refine kC H (oPL (sz:=1) (R:=(qK 1 (qK 1 xI))) (z:=(qQ)) (bytes:=24) underlying82 (by kernel_rfl) rfl rfl F rfl rfl rfl (H.s [1,0,2,3] rfl rfl) c8 fun a w d3 H F=>xG ⟨⟨_,H⟩,?_⟩);exact H4 d3 _ _ (F.su) H _ (by kernel_rfl)
   refine kC H (dF (R:=oE) (y:=(Literal.mk e.var e.value)) underlying83 sizeOf160 zeroValue160 rfl rfl F rfl rfl H (Eo.agg (oE.m U M)) fun a w d4 H F=>xG ⟨⟨_,H⟩,?_⟩);exact H2 ai d4 _ _ (F.su) (H.s [1,0,2,3,4] rfl rfl) _ (by kernel_rfl)
  refine dp (fun G=>∀ (aj:Value) (a:Act) (w:World),Sk a 180 [(0,qC f),(68,qC f),(69,qC f),(73,n),(74,v4),(80,j),(86,aj)]→Sep P Q O w [rl 2 oE 160 aj ([(Literal.mk e.var e.value)]),rl 1 (qK 1 xI) 32 v4 (I.set (e.var).toNat ([e.value])),rl 1 (qK 1 (qK 1 xI)) 55 n J,bx f [xC t,C,xC A,D,n,j] 85,rl 2 oE 160 j E]→∀ i,i = #[true,true,true,true,true,true,true,false,false,true,true,true,true,true,true,true,true,true,true,false,false,false,false,false,false,false]→G 9 i a w) ?_ (fun H6=>?_)
  ·
   intro aj a w F H i p;subst p;refine xE H 7 rfl (by kernel_rfl) ?_;have H:=(H.s [1,0,2,3,4] rfl rfl).os;refine dY (R:=(qK 1 (qK 1 xI))) (y:=(I.set (e.var).toNat ([e.value]))) underlying82 sizeOf55 zeroValue55 rfl rfl F rfl rfl H El.sl fun a w d5 H F=>xG ⟨⟨_,H⟩,?_⟩;exact H2 d5 aj _ _ (F.su) H _ (by kernel_rfl)
  refine dp (fun G=>∀ (ak al:Value) (a:Act) (w:World),Sk a 180 [(0,qC f),(68,qC f),(69,qC f),(72,.pointer (some ⟨f,4,none⟩)),(75,ak),(80,j),(86,al)]→Sep P Q O w [rl 1 (qK 1 (qK 1 xI)) 55 ak ([(I.set (e.var).toNat ([e.value]))]),rl 2 oE 160 al ([(Literal.mk e.var e.value)]),rl 1 (qK 1 (qK 1 xI)) 55 n J,bx f [xC t,C,xC A,D,n,j] 85,rl 2 oE 160 j E]→∀ i,i = #[true,true,true,true,true,false,true,true,false,true,true,true,true,true,true,true,true,true,true,false,false,false,false,false,false,false]→G 9 i a w) ?_ (fun H7=>?_)
  ·
   intro ak al a w F H i p;subst p;refine xE H 5 rfl (by kernel_rfl) (oB isAgg82 F rfl rfl (H.b 3 rfl) rfl fun a F=>xG ⟨⟨_,H⟩,?_⟩);exact H2 ak al _ _ (F.su) H _ (by kernel_rfl)
  refine dp (fun G=>∀ (am a3:Value) (a:Act) (w:World),Sk a 180 [(0,qC f),(68,qC f),(69,qC f),(73,n),(75,am),(79,.pointer (some ⟨f,5,none⟩)),(86,a3)]→Sep P Q O w [rl 1 (qK 1 (qK 1 xI)) 55 am ([(I.set (e.var).toNat ([e.value]))]),rl 2 oE 160 a3 ([(Literal.mk e.var e.value)]),rl 1 (qK 1 (qK 1 xI)) 55 n J,bx f [xC t,C,xC A,D,n,j] 85,rl 2 oE 160 j E]→∀ i,i = #[true,true,true,true,true,true,true,true,false,true,true,true,false,true,true,true,true,true,true,false,false,false,false,false,false,false]→G 9 i a w) ?_ (fun H8=>?_)
  ·
   intro am a3 a w F H i p;subst p;refine kH [8,12] (by kernel_rfl) (by simp) ⟨⟨_,rfl,?_⟩,⟨_,rfl,?_⟩,trivial⟩
   ·
    refine kC H (oPL (sz:=1) (R:=(qK 1 (qK 1 xI))) (z:=(qQ)) (bytes:=24) underlying82 (by kernel_rfl) rfl rfl F rfl rfl rfl (H.s [2,0,1,3,4] rfl rfl) c8 fun a w d6 H F=>xG ⟨⟨_,H⟩,?_⟩);exact H3 d6 a3 _ _ (F.su) H _ (by kernel_rfl)
   refine kC H (oB isAgg83 F rfl rfl (H.b 3 rfl) rfl fun a F=>xG ⟨⟨_,H⟩,?_⟩);exact H2 am a3 _ _ (F.su) H _ (by kernel_rfl)
  refine dp (fun G=>∀ (a4 a5:Value) (a:Act) (w:World),Sk a 180 [(0,qC f),(68,qC f),(69,qC f),(72,.pointer (some ⟨f,4,none⟩)),(75,a4),(79,.pointer (some ⟨f,5,none⟩)),(86,a5)]→Sep P Q O w [rl 1 (qK 1 (qK 1 xI)) 55 a4 ([(I.set (e.var).toNat ([e.value]))]),rl 2 oE 160 a5 ([(Literal.mk e.var e.value)]),rl 1 (qK 1 (qK 1 xI)) 55 n J,bx f [xC t,C,xC A,D,n,j] 85,rl 2 oE 160 j E]→∀ i,i = #[true,true,true,true,true,false,true,true,false,true,true,true,false,true,true,true,true,true,true,false,false,false,false,false,false,false]→G 10 i a w) ?_ (fun H9=>?_)
  ·
   intro a4 a5 a w F H i p;subst p;refine kH [5,12] (by kernel_rfl) (by simp) ⟨⟨_,rfl,?_⟩,⟨_,rfl,?_⟩,trivial⟩
   ·
    refine kC H (oB isAgg82 F rfl rfl (H.b 3 rfl) rfl fun a F=>xG ⟨⟨_,H⟩,?_⟩);exact H8 a4 a5 _ _ (F.su) H _ (by kernel_rfl)
   refine kC H (oB isAgg83 F rfl rfl (H.b 3 rfl) rfl fun a F=>xG ⟨⟨_,H⟩,?_⟩);exact H7 a4 a5 _ _ (F.su) H _ (by kernel_rfl)
  refine dp (fun G=>∀ (a6:Value) (a:Act) (w:World),Sk a 180 [(0,qC f),(68,qC f),(69,qC f),(73,n),(74,v4),(79,.pointer (some ⟨f,5,none⟩)),(86,a6)]→Sep P Q O w [rl 2 oE 160 a6 ([(Literal.mk e.var e.value)]),rl 1 (qK 1 xI) 32 v4 (I.set (e.var).toNat ([e.value])),rl 1 (qK 1 (qK 1 xI)) 55 n J,bx f [xC t,C,xC A,D,n,j] 85,rl 2 oE 160 j E]→∀ i,i = #[true,true,true,true,true,true,true,false,false,true,true,true,false,true,true,true,true,true,true,false,false,false,false,false,false,false]→G 10 i a w) ?_ (fun H10=>?_)
  ·
   intro a6 a w F H i p;subst p;refine kH [7,12] (by kernel_rfl) (by simp) ⟨⟨_,rfl,?_⟩,⟨_,rfl,?_⟩,trivial⟩
   ·
    refine kC H ?_;have H:=(H.s [1,0,2,3,4] rfl rfl).os;refine dY (R:=(qK 1 (qK 1 xI))) (y:=(I.set (e.var).toNat ([e.value]))) underlying82 sizeOf55 zeroValue55 rfl rfl F rfl rfl H El.sl fun a w d7 H F=>xG ⟨⟨_,H⟩,?_⟩;exact H8 d7 a6 _ _ (F.su) H _ (by kernel_rfl)
   refine kC H (oB isAgg83 F rfl rfl (H.b 3 rfl) rfl fun a F=>xG ⟨⟨_,H⟩,?_⟩);exact H6 a6 _ _ (F.su) H _ (by kernel_rfl)
  refine dp (fun G=>∀ (a:Act) (w:World),Sk a 180 [(0,qC f),(68,qC f),(69,qC f),(73,n),(74,v4),(80,j),(85,(.agg #[xC e.var,xC e.value]))]→Sep P Q O w [rl 1 (qK 1 xI) 32 v4 (I.set (e.var).toNat ([e.value])),rl 1 (qK 1 (qK 1 xI)) 55 n J,bx f [xC t,C,xC A,D,n,j] 85,rl 2 oE 160 j E]→∀ i,i = #[true,true,true,true,true,true,true,false,false,true,true,true,true,true,true,true,true,true,false,false,false,false,false,false,false,false]→G 10 i a w) ?_ (fun H11=>?_)
  ·
   intro a w F H i p;subst p;refine kH [7,18] (by kernel_rfl) (by simp) ⟨⟨_,rfl,?_⟩,⟨_,rfl,?_⟩,trivial⟩
   ·
    refine kC H ?_;have H:=H.os;refine dY (R:=(qK 1 (qK 1 xI))) (y:=(I.set (e.var).toNat ([e.value]))) underlying82 sizeOf55 zeroValue55 rfl rfl F rfl rfl H El.sl fun a w d8 H F=>xG ⟨⟨_,H⟩,?_⟩;exact H5 d8 _ _ (F.su) H _ (by kernel_rfl)
   refine kC H (dF (R:=oE) (y:=(Literal.mk e.var e.value)) underlying83 sizeOf160 zeroValue160 rfl rfl F rfl rfl H (Eo.agg (oE.m U M)) fun a w d9 H F=>xG ⟨⟨_,H⟩,?_⟩);exact H6 d9 _ _ (F.su) H _ (by kernel_rfl)
  refine dp (fun G=>∀ (a7:Value) (a:Act) (w:World),Sk a 180 [(0,qC f),(68,qC f),(69,qC f),(72,.pointer (some ⟨f,4,none⟩)),(75,a7),(80,j),(85,(.agg #[xC e.var,xC e.value]))]→Sep P Q O w [rl 1 (qK 1 (qK 1 xI)) 55 a7 ([(I.set (e.var).toNat ([e.value]))]),rl 1 (qK 1 (qK 1 xI)) 55 n J,bx f [xC t,C,xC A,D,n,j] 85,rl 2 oE 160 j E]→∀ i,i = #[true,true,true,true,true,false,true,true,false,true,true,true,true,true,true,true,true,true,false,false,false,false,false,false,false,false]→G 10 i a w) ?_ (fun H12=>?_)
  ·
   intro a7 a w F H i p;subst p;refine kH [5,18] (by kernel_rfl) (by simp) ⟨⟨_,rfl,?_⟩,⟨_,rfl,?_⟩,trivial⟩
   ·
    refine kC H (oB isAgg82 F rfl rfl (H.b 2 rfl) rfl fun a F=>xG ⟨⟨_,H⟩,?_⟩);exact H5 a7 _ _ (F.su) H _ (by kernel_rfl)
   refine kC H (dF (R:=oE) (y:=(Literal.mk e.var e.value)) underlying83 sizeOf160 zeroValue160 rfl rfl F rfl rfl H (Eo.agg (oE.m U M)) fun a w da H F=>xG ⟨⟨_,H⟩,?_⟩);exact H7 a7 da _ _ (F.su) (H.s [1,0,2,3,4] rfl rfl) _ (by kernel_rfl)
  refine dp (fun G=>∀ (a8:Value) (a:Act) (w:World),Sk a 180 [(0,qC f),(68,qC f),(69,qC f),(73,n),(75,a8),(79,.pointer (some ⟨f,5,none⟩)),(85,(.agg #[xC e.var,xC e.value]))]→Sep P Q O w [rl 1 (qK 1 (qK 1 xI)) 55 a8 ([(I.set (e.var).toNat ([e.value]))]),rl 1 (qK 1 (qK 1 xI)) 55 n J,bx f [xC t,C,xC A,D,n,j] 85,rl 2 oE 160 j E]→∀ i,i = #[true,true,true,true,true,true,true,true,false,true,true,true,false,true,true,true,true,true,false,false,false,false,false,false,false,false]→G 10 i a w) ?_ (fun H13=>?_)
  ·
   intro a8 a w F H i p;subst p;refine kH [8,12,18] (by kernel_rfl) (by simp) ⟨⟨_,rfl,?_⟩,⟨_,rfl,?_⟩,⟨_,rfl,?_⟩,trivial⟩
   ·
    refine kC H (oPL (sz:=1) (R:=(qK 1 (qK 1 xI))) (z:=(qQ)) (bytes:=24) underlying82 (by kernel_rfl) rfl rfl F rfl rfl rfl (H.s [1,0,2,3] rfl rfl) c8 fun a w v35 H F=>xG ⟨⟨_,H⟩,?_⟩);refine kH [12,18] (by kernel_rfl) (by simp) ⟨⟨_,rfl,?_⟩,⟨_,rfl,?_⟩,trivial⟩
    ·
     refine kC H (oB isAgg83 F rfl rfl (H.b 1 rfl) rfl fun a F=>xG ⟨⟨_,H⟩,?_⟩);exact H4 v35 _ _ (F.su) H _ (by kernel_rfl)
    refine kC H (dF (R:=oE) (y:=(Literal.mk e.var e.value)) underlying83 sizeOf160 zeroValue160 rfl rfl F rfl rfl H (Eo.agg (oE.m U M)) fun a w db H F=>xG ⟨⟨_,H⟩,?_⟩);exact H3 v35 db _ _ (F.su) (H.s [1,0,2,3] rfl rfl) _ (by kernel_rfl)
   ·
    refine kC H (oB isAgg83 F rfl rfl (H.b 2 rfl) rfl fun a F=>xG ⟨⟨_,H⟩,?_⟩);exact H5 a8 _ _ (F.su) H _ (by kernel_rfl)
   refine kC H (dF (R:=oE) (y:=(Literal.mk e.var e.value)) underlying83 sizeOf160 zeroValue160 rfl rfl F rfl rfl H (Eo.agg (oE.m U M)) fun a w dc H F=>xG ⟨⟨_,H⟩,?_⟩);exact H8 a8 dc _ _ (F.su) (H.s [1,0,2,3,4] rfl rfl) _ (by kernel_rfl)
  refine dp (fun G=>∀ (a9:Value) (a:Act) (w:World),Sk a 180 [(0,qC f),(68,qC f),(69,qC f),(72,.pointer (some ⟨f,4,none⟩)),(74,v4),(80,j),(86,a9)]→Sep P Q O w [rl 2 oE 160 a9 ([(Literal.mk e.var e.value)]),rl 1 (qK 1 xI) 32 v4 (I.set (e.var).toNat ([e.value])),rl 1 (qK 1 (qK 1 xI)) 55 n J,bx f [xC t,C,xC A,D,n,j] 85,rl 2 oE 160 j E]→∀ i,i = #[true,true,true,true,true,false,true,false,false,true,true,true,true,true,true,true,true,true,true,false,false,false,false,false,false,false]→G 10 i a w) ?_ (fun H14=>?_)
  ·
   intro a9 a w F H i p;subst p;refine kH [5,7] (by kernel_rfl) (by simp) ⟨⟨_,rfl,?_⟩,⟨_,rfl,?_⟩,trivial⟩
   ·
    refine kC H (oB isAgg82 F rfl rfl (H.b 3 rfl) rfl fun a F=>xG ⟨⟨_,H⟩,?_⟩);exact H6 a9 _ _ (F.su) H _ (by kernel_rfl)
   refine kC H ?_;have H:=(H.s [1,0,2,3,4] rfl rfl).os;refine dY (R:=(qK 1 (qK 1 xI))) (y:=(I.set (e.var).toNat ([e.value]))) underlying82 sizeOf55 zeroValue55 rfl rfl F rfl rfl H El.sl fun a w dd H F=>xG ⟨⟨_,H⟩,?_⟩;exact H7 dd a9 _ _ (F.su) H _ (by kernel_rfl)
  refine qP 0 rfl (by kernel_rfl) (xN F rfl (fun w l=>xL F rfl) fun a F=>qP 1 rfl (by kernel_rfl) (xN F rfl (fun w l=>xL F rfl) fun a F=>qP 2 rfl (by kernel_rfl) (xN F rfl (fun w l=>xL F rfl) fun a F=>oV 3 rfl (by kernel_rfl) (xN F rfl (fun w l=>oY F rfl) fun a F=>oV 4 rfl (by kernel_rfl) (xN F rfl (fun w l=>xU mC F rfl rfl) fun a F=>qP 6 rfl (by kernel_rfl) ?_)))));refine xN F rfl (fun w l=>xL F rfl) fun a F=>qP 9 rfl (by kernel_rfl) (xN F rfl (fun w l=>xL F rfl) fun a F=>oV 10 rfl (by kernel_rfl) (xN F rfl (fun w l=>oY F rfl) fun a F=>oV 11 rfl (by kernel_rfl) (xN F rfl (fun w l=>xU wZ F rfl rfl) fun a F=>oV 13 rfl (by kernel_rfl) (xN F rfl (fun w l=>xU iS F rfl rfl) fun a F=>oV 14 rfl (by kernel_rfl) (vB isAgg2 F rfl rfl (K1.v H.sm) rfl (fun a F=>?_))))));refine oV 15 rfl (by kernel_rfl) (xN F rfl (fun w l=>xU nO F rfl rfl) fun a F=>oV 16 rfl (by kernel_rfl) (vB isAgg2 F rfl rfl (K1.v H.sm) rfl fun a F=>oV 17 rfl (by kernel_rfl) (xN F rfl (fun w l=>jV underlying160 zeroValue160 (fun w=>by simp [sizeOf2];rfl) F rfl rfl rfl rfl (oc rfl (oc rfl on)) rfl rfl) fun a F=>kH [5,7,12,18] (by kernel_rfl) (by simp) ⟨⟨_,rfl,?_⟩,⟨_,rfl,?_⟩,⟨_,rfl,?_⟩,⟨_,rfl,?_⟩,trivial⟩)))
  ·
   refine kC H (oB isAgg82 F rfl rfl (H.b 2 rfl) rfl fun a F=>xG ⟨⟨_,H⟩,?_⟩);refine kH [7,12,18] (by kernel_rfl) (by simp) ⟨⟨_,rfl,?_⟩,⟨_,rfl,?_⟩,⟨_,rfl,?_⟩,trivial⟩
   ·
    refine kC H ?_;have H:=H.os;refine dY (R:=(qK 1 (qK 1 xI))) (y:=(I.set (e.var).toNat ([e.value]))) underlying82 sizeOf55 zeroValue55 rfl rfl F rfl rfl H El.sl fun a w de H F=>xG ⟨⟨_,H⟩,?_⟩;exact H13 de _ _ (F.su) H _ (by kernel_rfl)
   ·
    refine kC H (oB isAgg83 F rfl rfl (H.b 2 rfl) rfl fun a F=>xG ⟨⟨_,H⟩,?_⟩);exact H11 _ _ (F.su) H _ (by kernel_rfl)
   refine kC H (dF (R:=oE) (y:=(Literal.mk e.var e.value)) underlying83 sizeOf160 zeroValue160 rfl rfl F rfl rfl H (Eo.agg (oE.m U M)) fun a w df H F=>xG ⟨⟨_,H⟩,?_⟩);exact H10 df _ _ (F.su) H _ (by kernel_rfl)
  ·
   refine kC H ?_;have H:=H.os;refine dY (R:=(qK 1 (qK 1 xI))) (y:=(I.set (e.var).toNat ([e.value]))) underlying82 sizeOf55 zeroValue55 rfl rfl F rfl rfl H El.sl fun a w b3 H F=>xG ⟨⟨_,H⟩,?_⟩;refine kH [5,12,18] (by kernel_rfl) (by simp) ⟨⟨_,rfl,?_⟩,⟨_,rfl,?_⟩,⟨_,rfl,?_⟩,trivial⟩
   ·
    refine kC H (oB isAgg82 F rfl rfl (H.b 2 rfl) rfl fun a F=>xG ⟨⟨_,H⟩,?_⟩);exact H13 b3 _ _ (F.su) H _ (by kernel_rfl)
   ·
    refine kC H (oB isAgg83 F rfl rfl (H.b 2 rfl) rfl fun a F=>xG ⟨⟨_,H⟩,?_⟩);exact H12 b3 _ _ (F.su) H _ (by kernel_rfl)
   refine kC H (dF (R:=oE) (y:=(Literal.mk e.var e.value)) underlying83 sizeOf160 zeroValue160 rfl rfl F rfl rfl H (Eo.agg (oE.m U M)) fun a w dg H F=>xG ⟨⟨_,H⟩,?_⟩);exact H9 b3 dg _ _ (F.su) (H.s [1,0,2,3,4] rfl rfl) _ (by kernel_rfl)
  ·
   refine kC H (oB isAgg83 F rfl rfl (H.b 2 rfl) rfl fun a F=>xG ⟨⟨_,H⟩,?_⟩);refine kH [5,7,18] (by kernel_rfl) (by simp) ⟨⟨_,rfl,?_⟩,⟨_,rfl,?_⟩,⟨_,rfl,?_⟩,trivial⟩
   ·
    refine kC H (oB isAgg82 F rfl rfl (H.b 2 rfl) rfl fun a F=>xG ⟨⟨_,H⟩,?_⟩);exact H11 _ _ (F.su) H _ (by kernel_rfl)
   ·
    refine kC H ?_;have H:=H.os;refine dY (R:=(qK 1 (qK 1 xI))) (y:=(I.set (e.var).toNat ([e.value]))) underlying82 sizeOf55 zeroValue55 rfl rfl F rfl rfl H El.sl fun a w dh H F=>xG ⟨⟨_,H⟩,?_⟩;exact H12 dh _ _ (F.su) H _ (by kernel_rfl)
   refine kC H (dF (R:=oE) (y:=(Literal.mk e.var e.value)) underlying83 sizeOf160 zeroValue160 rfl rfl F rfl rfl H (Eo.agg (oE.m U M)) fun a w di H F=>xG ⟨⟨_,H⟩,?_⟩);exact H14 di _ _ (F.su) H _ (by kernel_rfl)
  refine kC H (dF (R:=oE) (y:=(Literal.mk e.var e.value)) underlying83 sizeOf160 zeroValue160 rfl rfl F rfl rfl H (Eo.agg (oE.m U M)) fun a w b4 H F=>xG ⟨⟨_,H⟩,?_⟩);refine kH [5,7,12] (by kernel_rfl) (by simp) ⟨⟨_,rfl,?_⟩,⟨_,rfl,?_⟩,⟨_,rfl,?_⟩,trivial⟩
  ·
   refine kC H (oB isAgg82 F rfl rfl (H.b 3 rfl) rfl fun a F=>xG ⟨⟨_,H⟩,?_⟩);exact H10 b4 _ _ (F.su) H _ (by kernel_rfl)
  ·
   refine kC H ?_;have H:=(H.s [1,0,2,3,4] rfl rfl).os;refine dY (R:=(qK 1 (qK 1 xI))) (y:=(I.set (e.var).toNat ([e.value]))) underlying82 sizeOf55 zeroValue55 rfl rfl F rfl rfl H El.sl fun a w dj H F=>xG ⟨⟨_,H⟩,?_⟩;exact H9 dj b4 _ _ (F.su) H _ (by kernel_rfl)
  refine kC H (oB isAgg83 F rfl rfl (H.b 3 rfl) rfl fun a F=>xG ⟨⟨_,H⟩,?_⟩);exact H14 b4 _ _ (F.su) H _ (by kernel_rfl)
 replace d:=vX hb3 d;refine xV (xA 2 F rfl fun a F=>xG (qS F rfl (fun b5=>?_) (fun b5=>?_)))
 ·
  replace d:=vY b5 d;refine xF (xF (xQ H (by kernel_rfl) (by kernel_rfl) (xM F rfl (fun w l=>xL F rfl) fun a F=>xM F rfl (fun w l=>oY F rfl) fun a F=>xM F rfl (fun w l=>xU xOg F rfl rfl) fun a F=>qBA isAgg26 sizeOf26 F rfl rfl (H.qb 3 rfl) rfl rfl fun a F=>xM F rfl (fun w l=>xL F rfl) fun a F=>xM F rfl (fun w l=>oY F rfl) fun a F=>xM F rfl (fun w l=>xU xJv F rfl rfl) fun a F=>qBA isAgg29 sizeOf29 F rfl rfl (H.qb 3 rfl) rfl rfl (fun a F=>?_))));refine xM F rfl (fun w l=>xL F rfl) fun a F=>xM F rfl (fun w l=>xU iS F rfl rfl) fun a F=>qB isAgg2 F rfl rfl (H.qb 2 rfl) rfl fun a F=>xM F rfl (fun w l=>xU nO F rfl rfl) fun a F=>qB isAgg2 F rfl rfl (H.qb 2 rfl) rfl fun a F=>xM F rfl (fun w l=>xU xBn F rfl rfl) fun a F=>qB isAgg2 F rfl rfl (H.qb 2 rfl) rfl fun a F=>xM F rfl (fun w l=>jV underlying152 zeroValue152 (fun w=>by simp [sizeOf2];rfl) F rfl rfl rfl rfl (oc rfl (oc rfl (oc rfl on))) rfl rfl) (fun a F=>?_);obtain⟨dk,dl,d⟩:=xB d;refine fG F rfl call101 rfl (fun w w' h l=>l.through h) (fun w l=>sP dk dl w aA (xJ.m cp ((H.go l).a cq)) (xK.m cr ((H.go l).a cs)) ((H.go l).o 0 rfl) (oU.m U M i4)) fun a F=>xM F rfl (fun w l=>iC F rfl) fun a F=>kT fun w H=>xH (qS F rfl (fun b6=>?_) (fun b6=>?_))
  ·
   replace d:=vY b6 d;refine xF ?_;have H:=Sep.unfoc0 hl40 (eI Z) H;refine oM (xA 1 F rfl fun a F=>xG (xP (oJ (vO (oJ (xR F rfl (xX F rfl) ?_))))));obtain rfl:=oj d;exact⟨_,rfl,n,j,rfl,(H.s [2,0,3] rfl rfl)⟩
  replace d:=vX b6 d;refine xS (xH (xF ?_));obtain⟨fi,b7,d⟩:=xB d;obtain⟨dm,dq,d⟩:=xB d;obtain⟨w2,rfl⟩:∃ x,x=w:=⟨_,rfl⟩;have fj:=H.sm;obtain⟨X2,N2,g2,e2,H,dr,fk⟩:=(H.s [2,0,1,3,4] rfl rfl).fza;have K2:=g2.bk;refine xD H (by kernel_rfl) fun w H=>qP 0 rfl (by kernel_rfl) (xN F rfl (fun w l=>xL F rfl) fun a F=>oV 1 rfl (by kernel_rfl) (xN F rfl (fun w l=>xU iS F rfl rfl) fun a F=>oV 2 rfl (by kernel_rfl) (vB isAgg2 F rfl rfl (K2.v H.sm) rfl fun a F=>qP 3 rfl (by kernel_rfl) (xN F rfl (fun w l=>xL F rfl) fun a F=>oV 4 rfl (by kernel_rfl) (xN F rfl (fun w l=>xU iS F rfl rfl) (fun a F=>?_))))));refine oV 5 rfl (by kernel_rfl) (vB isAgg2 F rfl rfl (K2.v H.sm) rfl fun a F=>oV 8 rfl (by kernel_rfl) (xN F rfl (fun w l=>xU nO F rfl rfl) fun a F=>oV 9 rfl (by kernel_rfl) (vB isAgg2 F rfl rfl (K2.v H.sm) rfl fun a F=>xE H 6 rfl (by kernel_rfl) (oI underlying55 sizeOf32 F rfl rfl rfl (H.o 0 rfl) b7 fun a p4 h7 F=>xG ⟨⟨_,H⟩,?_⟩))));refine xE H 7 rfl (by kernel_rfl) (gX isAgg32 F rfl rfl (Sm.refl _ _) h7 fun a fl h8 F=>xG ⟨⟨_,H⟩,?_⟩);refine xE H 10 rfl (by kernel_rfl) (oG F rfl call85 rfl (gV dm dq _ aA h8 M) (fun a vv w ⟨fm,fn,S⟩ F=>?_));subst vv;have H:=H.r1 S n0;refine xG ⟨⟨_,H⟩,?_⟩;refine xE H 11 rfl (by kernel_rfl) (oRo underlying55 sizeOf32 F rfl rfl rfl H 1 rfl b7 fun a p5 h9 ds F=>xG ⟨⟨_,H⟩,?_⟩);refine xE H 12 rfl (by kernel_rfl) (xPb sizeOf32 F rfl rfl rfl (H.s [1,0,2,3,4] rfl rfl) ds (fQ b7) rfl (fun w H=>?_));have H:=Sep.unfoc hl40 H;refine xG ⟨⟨_,H⟩,?_⟩;refine vP (by kernel_rfl) (xH (xV (xA 1 F rfl fun a F=>xG (xP (vO (oJ ?_))))));have H:=(dr.1 H (Ns.all ⟨n0,⟨n0,⟨n0,trivial⟩⟩⟩));refine xR F rfl (xX F rfl) ?_;obtain rfl:=oj d;exact⟨_,rfl,n,j,rfl,(H.s [2,1,3] rfl rfl)⟩
 replace d:=vX b5 d;refine xV (xA 2 F rfl fun a F=>xG (qS F rfl (fun b8=>?_) (fun b8=>?_)))
 ·
  replace d:=vY b8 d;refine xF (xV (xA 1 F rfl fun a F=>oD iS F rfl rfl rfl fun a F=>oB isAgg2 F rfl rfl (H.b 2 rfl) rfl (fun a F=>?_)));obtain⟨fo,du,d⟩:=xB d;refine oI underlying55 sizeOf32 F rfl rfl rfl (H.o 0 rfl) du fun a p6 dw F=>gX isAgg32 F rfl rfl (Sm.refl _ _) dw fun a fp dx F=>oL underlying32 F rfl rfl dx fun a i6 F=>xA 1 F rfl fun a F=>xG (qS F rfl (fun b9=>?_) (fun b9=>?_))
  ·
   replace d:=vY b9 d;refine xF ?_;have H:=Sep.unfoc0 hl40 (eI Z) H;refine oM (xA 1 F rfl fun a F=>xG (xP (oJ (vO (oJ (xR F rfl (xX F rfl) ?_))))));obtain rfl:=oj d;exact⟨_,rfl,n,j,rfl,(H.s [2,0,3] rfl rfl)⟩
  replace d:=vX b9 d;refine xS (xH (xF ?_));have H:=Sep.unfoc0 hl40 (eI Z) H;refine oM (xA 1 F rfl fun a F=>qJ F rfl rfl fun a F=>oD wZ F rfl rfl rfl fun a F=>oB isAgg83 F rfl rfl (H.b 2 rfl) rfl fun a F=>xA 1 F rfl fun a F=>?_);obtain⟨T,dy,d⟩:=xB d;obtain⟨w3,rfl⟩:∃ x,x=w:=⟨_,rfl⟩;have fq:=H.sm;obtain⟨X3,N3,g3,e3,H,dz,fs⟩:=(H.s [3,0,1,2] rfl rfl).fza;have e0:=g3.ld;refine oI underlying83 sizeOf160 F rfl rfl rfl e0 dy fun a p7 h13 F=>olA isAgg160 sizeOf160 F rfl rfl H.sm h13 fun a ft h14 F=>oA zeroValue160 F rfl rfl H (fun a w X H F=>?_);obtain⟨rfl,i7,i8⟩:=oE.o h14;refine eX (vs:=[xC T.var,xC T.value]) sizeOf160 F rfl rfl rfl H (oc rfl (oc rfl on)) rfl rfl fun w H=>xG (xF ?_);have H:=(dz.1 H (Ns.all ⟨n0,⟨n0,⟨n0,⟨n0,trivial⟩⟩⟩⟩));obtain⟨ba,bb,d⟩:=xB d;obtain⟨bc,an,d⟩:=xB d;refine xD H (by kernel_rfl) fun w H=>dp (fun G=>∀ (aa ab:Value) (a:Act) (w:World),Sk a 180 [(0,qC f),(5,xC W),(8,qC X),(141,qC f),(153,ab)]→Sep Y B K w [rl 1 (qK 1 (qK 1 xI)) 55 aa ba,rl 2 oE 160 ab bc,bx f [xC t,C,xC A,D,aa,j] 85,bx X [xC T.var,xC T.value] 160]→∀ i,i = #[true,true,true,true,true,true,true,true,true,true,true,true,true,true,true,true,true,false,false,false]→G 3 i a w) ?_ (fun ca=>?_)
  ·
   intro aa ab a w F H i p;subst p;refine oV 17 rfl (by kernel_rfl) (xN F rfl (fun w l=>oY F rfl) fun a F=>oV 18 rfl (by kernel_rfl) (xN F rfl (fun w l=>xU wZ F rfl rfl) fun a F=>xE H 19 rfl (by kernel_rfl) (oW sizeOf83 F rfl rfl rfl (H.s [2,0,1,3] rfl rfl) ((H.s [2,0,1,3] rfl rfl).l 2 rfl).one rfl rfl fun w H=>xG ⟨⟨_,H⟩,?_⟩)));refine vP (by kernel_rfl) (xH (xF (xV (xA 2 F rfl fun a F=>xG (qS F rfl (fun ay=>?_) (fun ay=>?_))))))
   ·
    replace d:=vY ay d;refine xV (xA 1 F rfl fun a F=>qJ F rfl rfl fun a F=>oD mC F rfl rfl rfl fun a F=>oB isAgg82 F rfl rfl (H.b 0 rfl) rfl fun a F=>xA 1 F rfl fun a F=>?_);obtain⟨fu,c17,d⟩:=xB d;refine fL F rfl rfl rfl c17 (fun a F=>?_);obtain⟨fv,cb,d⟩:=xB d;refine oRl underlying82 sizeOf55 F rfl rfl rfl H 1 rfl cb fun a p8 fw rp4 F=>tL isAgg55 F rfl rfl (H.s [1,0,2,3] rfl rfl) rp4 (eI cb) fun a fb H hl334 F=>xA 1 F rfl fun a F=>xG ?_;obtain⟨fx,be,d⟩:=xB d;obtain⟨e5,e6,d⟩:=xB d;obtain⟨w4,rfl⟩:∃ x,x=w:=⟨_,rfl⟩;have fy:=H.sm;obtain⟨X4,N4,g4,e4,H,e7,fz⟩:=(H.s [4,0,1,2,3] rfl rfl).fza;have K3:=g4.bk;refine xD H (by kernel_rfl) fun w H=>qP 0 rfl (by kernel_rfl) (xN F rfl (fun w l=>xL F rfl) fun a F=>oV 1 rfl (by kernel_rfl) (xN F rfl (fun w l=>xU xGr F rfl rfl) fun a F=>oV 2 rfl (by kernel_rfl) (vB isAgg2 F rfl rfl (K3.v H.sm) rfl fun a F=>qP 3 rfl (by kernel_rfl) (xN F rfl (fun w l=>xL F rfl) fun a F=>oV 4 rfl (by kernel_rfl) (xN F rfl (fun w l=>xU xGr F rfl rfl) (fun a F=>?_))))));refine oV 5 rfl (by kernel_rfl) (vB isAgg2 F rfl rfl (K3.v H.sm) rfl fun a F=>oV 8 rfl (by kernel_rfl) (xN F rfl (fun w l=>xU xMm F rfl rfl) fun a F=>oV 9 rfl (by kernel_rfl) (vB isAgg2 F rfl rfl (K3.v H.sm) rfl fun a F=>xE H 6 rfl (by kernel_rfl) (oI underlying55 sizeOf32 F rfl rfl rfl (H.o 0 rfl) be fun a p9 e8 F=>xG ⟨⟨_,H⟩,?_⟩))));refine xE H 7 rfl (by kernel_rfl) (gX isAgg32 F rfl rfl (Sm.refl _ _) e8 fun a g0 e9 F=>xG ⟨⟨_,H⟩,?_⟩);refine xE H 10 rfl (by kernel_rfl) (oG F rfl call85 rfl (gV e5 e6 _ aA e9 i8) (fun a vv w ⟨v55,hv3,S⟩ F=>?_));subst vv;have H:=H.r1 S n0;refine xG ⟨⟨_,H⟩,?_⟩;refine xE H 11 rfl (by kernel_rfl) (oRo underlying55 sizeOf32 F rfl rfl rfl H 1 rfl be fun a p10 h18 ea F=>xG ⟨⟨_,H⟩,?_⟩);refine xE H 12 rfl (by kernel_rfl) (xPb sizeOf32 F rfl rfl rfl (H.s [1,0,2,3,4] rfl rfl) ea (fQ be) rfl (fun w H=>?_));have H:=Sep.unfoc hl334 H;refine xG ⟨⟨_,H⟩,?_⟩;refine vP (by kernel_rfl) (xH (xV (xA 1 F rfl fun a F=>xG (xP (vO (oJ ?_))))));have H:=(e7.1 H (Ns.all ⟨n0,⟨n0,⟨n0,trivial⟩⟩⟩));refine xR F rfl (xX F rfl) ?_;obtain rfl:=oj d;exact⟨_,rfl,aa,ab,rfl,(H.s [2,1,3] rfl rfl)⟩
   replace d:=vX ay d;refine xS (xH (xV (xA 1 F rfl fun a F=>xG (xP (vO (oJ (xR F rfl (xX F rfl) ?_)))))));obtain rfl:=oj d;exact⟨_,rfl,aa,ab,rfl,(H.s [0,1,2] rfl rfl)⟩
  refine dp (fun G=>∀ (ao aq:Value) (a:Act) (w:World),Sk a 180 [(0,qC f),(5,xC W),(8,qC X),(141,qC f),(147,ao),(153,aq),(155,.pointer (some ⟨f,4,none⟩))]→Sep Y B K w [rl 1 (qK 1 (qK 1 xI)) 55 ao ba,rl 2 oE 160 aq bc,bx X [xC T.var,xC T.value] 160,bx f [xC t,C,xC A,D,n,j] 85]→∀ i,i = #[true,true,true,true,true,true,true,true,true,true,true,true,true,true,true,true,false,false,false,false]→G 4 i a w) ?_ (fun cc=>?_)
  ·
   intro ao aq a w F H i p;subst p;refine xE H 16 rfl (by kernel_rfl) (oW sizeOf82 F rfl rfl rfl (H.s [3,0,1,2] rfl rfl) ((H.s [3,0,1,2] rfl rfl).l 1 rfl).one rfl rfl fun w H=>xG ⟨⟨_,H⟩,?_⟩);exact ca ao aq _ _ (F.su) (H.s [1,2,0,3] rfl rfl) _ (by kernel_rfl)
  refine dp (fun G=>∀ (ac:Value) (a:Act) (w:World),Sk a 180 [(0,qC f),(5,xC W),(8,qC X),(140,qC f),(141,qC f),(147,ac),(151,j),(152,xC W)]→Sep Y B K w [rl 1 (qK 1 (qK 1 xI)) 55 ac ba,rl 2 oE 160 j E,bx X [xC T.var,xC T.value] 160,bx f [xC t,C,xC A,D,n,j] 85]→∀ i,i = #[true,true,true,true,true,true,true,true,true,true,true,true,true,false,false,false,false,false,false,false]→G 7 i a w) ?_ (fun cd=>?_)
  ·
   intro ac a w F H i p;subst p;refine oV 14 rfl (by kernel_rfl) (xN F rfl (fun w l=>oY F rfl) fun a F=>oV 15 rfl (by kernel_rfl) (xN F rfl (fun w l=>xU mC F rfl rfl) fun a F=>kH [13,16] (by kernel_rfl) (by simp) ⟨⟨_,rfl,?_⟩,⟨_,rfl,?_⟩,trivial⟩))
   ·
    refine kC H (oT underlying83 sizeOf160 F rfl rfl rfl (H.s [1,0,2,3] rfl rfl).lw an (fun a ec H F=>?_));have H:=H.tl;refine xG ⟨⟨_,H⟩,?_⟩;exact cc ac ec _ _ (F.su) (H.s [1,0,2,3] rfl rfl) _ (by kernel_rfl)
   refine kC H (oW sizeOf82 F rfl rfl rfl (H.s [3,0,1,2] rfl rfl) ((H.s [3,0,1,2] rfl rfl).l 1 rfl).one rfl rfl fun w H=>xG ⟨⟨_,H⟩,?_⟩);refine xE H 13 rfl (by kernel_rfl) (oT underlying83 sizeOf160 F rfl rfl rfl (H.s [2,0,1,3] rfl rfl).lw an (fun a ed H F=>?_));have H:=H.tl;refine xG ⟨⟨_,H⟩,?_⟩;exact ca ac ed _ _ (F.su) (H.s [2,0,1,3] rfl rfl) _ (by kernel_rfl)
  refine dp (fun G=>∀ (ar:Value) (a:Act) (w:World),Sk a 180 [(0,qC f),(5,xC W),(8,qC X),(140,qC f),(141,qC f),(145,n),(146,xC W),(153,ar)]→Sep Y B K w [rl 2 oE 160 ar bc,bx X [xC T.var,xC T.value] 160,rl 1 (qK 1 (qK 1 xI)) 55 n J,bx f [xC t,C,xC A,D,n,j] 85]→∀ i,i = #[true,true,true,true,true,true,true,false,true,true,true,true,true,true,false,false,false,false,false,false]→G 7 i a w) ?_ (fun ce=>?_)
  ·
   intro ar a w F H i p;subst p;refine xE H 7 rfl (by kernel_rfl) (oTl underlying82 sizeOf55 F rfl rfl rfl (H.s [2,0,1,3] rfl rfl) bb fun a ee H F=>xG ⟨⟨_,H⟩,?_⟩);refine oV 14 rfl (by kernel_rfl) (xN F rfl (fun w l=>oY F rfl) fun a F=>oV 15 rfl (by kernel_rfl) (xN F rfl (fun w l=>xU mC F rfl rfl) (fun a F=>?_)));exact cc ee ar _ _ (F.su) H _ (by kernel_rfl)
  refine dp (fun G=>∀ (a:Act) (w:World),Sk a 180 [(0,qC f),(5,xC W),(8,qC X),(140,qC f),(141,qC f),(145,n),(146,xC W),(151,j),(152,xC W)]→Sep Y B K w [rl 2 oE 160 j E,bx X [xC T.var,xC T.value] 160,rl 1 (qK 1 (qK 1 xI)) 55 n J,bx f [xC t,C,xC A,D,n,j] 85]→∀ i,i = #[true,true,true,true,true,true,true,false,true,true,true,true,true,false,false,false,false,false,false,false]→G 8 i a w) ?_ (fun cf=>?_)
  ·
   intro a w F H i p;subst p;refine kH [7,13] (by kernel_rfl) (by simp) ⟨⟨_,rfl,?_⟩,⟨_,rfl,?_⟩,trivial⟩
   ·
    refine kC H (oTl underlying82 sizeOf55 F rfl rfl rfl (H.s [2,0,1,3] rfl rfl) bb fun a ef H F=>xG ⟨⟨_,H⟩,?_⟩);exact cd ef _ _ (F.su) H _ (by kernel_rfl)
   refine kC H (oT underlying83 sizeOf160 F rfl rfl rfl H.lw an (fun a eg H F=>?_));have H:=H.tl;refine xG ⟨⟨_,H⟩,?_⟩;exact ce eg _ _ (F.su) H _ (by kernel_rfl)
  refine qP 0 rfl (by kernel_rfl) (xN F rfl (fun w l=>xL F rfl) fun a F=>qP 1 rfl (by kernel_rfl) (xN F rfl (fun w l=>xL F rfl) fun a F=>qP 2 rfl (by kernel_rfl) (xN F rfl (fun w l=>xL F rfl) fun a F=>oV 3 rfl (by kernel_rfl) (xN F rfl (fun w l=>oY F rfl) fun a F=>oV 4 rfl (by kernel_rfl) (xN F rfl (fun w l=>xU mC F rfl rfl) fun a F=>qP 6 rfl (by kernel_rfl) ?_)))));refine xN F rfl (fun w l=>xL F rfl) fun a F=>qP 8 rfl (by kernel_rfl) (xN F rfl (fun w l=>xL F rfl) fun a F=>oV 9 rfl (by kernel_rfl) (xN F rfl (fun w l=>oY F rfl) fun a F=>oV 10 rfl (by kernel_rfl) (xN F rfl (fun w l=>xU wZ F rfl rfl) fun a F=>qP 12 rfl (by kernel_rfl) (xN F rfl (fun w l=>xL F rfl) fun a F=>kH [5,11] (by kernel_rfl) (by simp) ⟨⟨_,rfl,?_⟩,⟨_,rfl,?_⟩,trivial⟩))))
  ·
   refine kC H (oB isAgg82 F rfl rfl (H.b 4 rfl) rfl fun a F=>xG ⟨⟨_,H⟩,?_⟩);refine kH [7,11] (by kernel_rfl) (by simp) ⟨⟨_,rfl,?_⟩,⟨_,rfl,?_⟩,trivial⟩
   ·
    refine kC H (oTl underlying82 sizeOf55 F rfl rfl rfl (H.s [2,0,1,3,4] rfl rfl) bb fun a eh H F=>xG ⟨⟨_,H⟩,?_⟩);refine xE H 11 rfl (by kernel_rfl) (oB isAgg83 F rfl rfl (H.b 4 rfl) rfl fun a F=>xG ⟨⟨_,H⟩,?_⟩);exact cd eh _ _ (F.su) (H.s [0,1,2,4] rfl rfl) _ (by kernel_rfl)
   refine kC H (oB isAgg83 F rfl rfl (H.b 4 rfl) rfl fun a F=>xG ⟨⟨_,H⟩,?_⟩);exact cf _ _ (F.su) (H.s [0,1,2,4] rfl rfl) _ (by kernel_rfl)
  refine kC H (oB isAgg83 F rfl rfl (H.b 4 rfl) rfl fun a F=>xG ⟨⟨_,H⟩,?_⟩);refine kH [5,13] (by kernel_rfl) (by simp) ⟨⟨_,rfl,?_⟩,⟨_,rfl,?_⟩,trivial⟩
  ·
   refine kC H (oB isAgg82 F rfl rfl (H.b 4 rfl) rfl fun a F=>xG ⟨⟨_,H⟩,?_⟩);exact cf _ _ (F.su) (H.s [0,1,2,4] rfl rfl) _ (by kernel_rfl)
  refine kC H (oT underlying83 sizeOf160 F rfl rfl rfl H.lw an (fun a ei H F=>?_));have H:=H.tl;refine xG ⟨⟨_,H⟩,?_⟩;refine xE H 5 rfl (by kernel_rfl) (oB isAgg82 F rfl rfl (H.b 4 rfl) rfl fun a F=>xG ⟨⟨_,H⟩,?_⟩);exact ce ei _ _ (F.su) (H.s [0,1,2,4] rfl rfl) _ (by kernel_rfl)
 replace d:=vX b8 d;refine xS (vK (xH (xF ?_)));have H:=Sep.unfoc0 hl40 (eI Z) H;refine oM (xA 1 F rfl fun a F=>xG (xP (xR F rfl (xX F rfl) ?_)));obtain rfl:=oj d;exact⟨_,rfl,n,j,rfl,(H.s [2,0,3] rfl rfl)⟩
def gY (N:Nat) (d:Template) (e:Instance) (i:List Line):Option ((Int×(List Rel)×Int×(List Con)×(List (List (List Int)))×(List Literal))×Int×Int):=
 xZ (kM (Template.mk d.size d.rels) (Instance.mk e.vars e.cons)) fun j=>
 if (!j) then
  some ((0,[],0,[],[],[]),0,1)
 else
  if (decide (4000<(i.length:Int))) then
   some ((0,[],0,[],[],[]),0,3)
  else
   xZ (fV (Template.mk d.size d.rels) (Instance.mk e.vars e.cons)) fun c=>
   zW (σ:=(List (List (List Int)))×(List Literal)) (
    qR (σ:=(List (List (List Int)))×(List Literal)) (ρ:=(Int×(List Rel)×Int×(List Con)×(List (List (List Int)))×(List Literal))×Int×Int) (fun (n:Nat) (f:Line) (s:(List (List (List Int)))×(List Literal))=>
      match s with
      | (p,t)=>
      xZ (zI N c.1 c.2.1 c.2.2.1 c.2.2.2.1 p t (Line.mk f.kind f.var f.value f.con)) fun h=>
      if (!h.1) then
       some (.ret ((0,[],0,[],[],[]),(n:Int),8))
      else
       some (.go (h.2.1,h.2.2))) i 0 (c.2.2.2.2.1,c.2.2.2.2.2)) fun(x,y)=>
   some ((c.1,c.2.1,c.2.2.1,c.2.2.2.1,x,y),0,0)
theorem uK {B:Nat→Prop} {N:Nat} {x0:Template} {x1:Instance} {n:List Line} (r:(Int×(List Rel)×Int×(List Con)×(List (List (List Int)))×(List Literal))×Int×Int) (d:gY N x0 x1 n=some r) {X:Value} {Y:Value} {M:Value} (e:World) (hN:∀ c,B c→c<e.heap.size) (A0:Bo B e (kJ 2 xJ) X x0) (A1:Bo B e (kJ 2 xK) Y x1) (Z:Bo B e (Sl 4 oP) M n):Calls Tryz.prog 31 #[X,Y,M] e (Gv (fun v w'=>∃ (a3:Value),v= .tuple #[a3,xC r.2.1,xC r.2.2]∧Sep [] B e w' []∧(r.2.2=0→∃ (a4:Nat) (a5 a6 a7 a8:Value),a3=qC a4∧Sep [] B e w' [bx a4 [xC r.1.1,a5,xC r.1.2.2.1,a6,a7,a8] 85,rl 1 (qK 1 (qK 1 xI)) 55 a7 r.1.2.2.2.2.1,rl 2 oE 160 a8 r.1.2.2.2.2.2]∧xO r.1.1∧Bo B e (Sl 2 qG) a5 r.1.2.1∧xO r.1.2.2.1∧Bo B e (Sl 2 qH) a6 r.1.2.2.2.1)∧xO r.2.1∧xO r.2.2)):=by
 unfold gY at d
 refine xW (L:=[(0,X),(1,Y),(2,M)]) func31 rfl rfl rfl (sc rfl (sc rfl (sc rfl sn))) (fun a F=>?_);have H:=Sep.start hN;refine xV ?_;obtain⟨v3,rfl,i1,h1⟩:=xJ.o A0;refine oX F rfl rfl rfl H (fun a w b1 H F=>?_);obtain⟨bc,rfl,i2,h2⟩:=xK.o A1;refine oX F rfl rfl rfl H fun a w b2 H F=>xA 3 F rfl fun a F=>xG (xF (oQ (xV (fJ isAgg26 sizeOf26 F rfl rfl (H.b 1 rfl) rfl rfl (fun a F=>?_)))));refine fJ isAgg29 sizeOf29 F rfl rfl (H.b 0 rfl) rfl rfl (fun a F=>?_);obtain⟨z1,c1,d⟩:=xB d;refine oK F rfl call46 rfl H (eV z1 c1 _ aA (xJ.m i1 (H.a h1)) (xK.m i2 (H.a h2))) fun a w H F=>xA 2 F rfl fun a F=>xG (qS F rfl (fun R=>?_) (fun R=>?_))
 ·
  replace d:=vY R d;refine xV (xA 3 F rfl fun a F=>xG (xP (vO (oJ (jL F rfl (xX F rfl) (xX F rfl) (xX F rfl) ?_)))));obtain rfl:=oj d;exact⟨_,rfl,_,rfl,(H.s [] rfl rfl),(fun h=>absurd h (show(1:Int)≠0 by decide)),(show xO (0) by decide),(show xO (1) by decide)⟩
 replace d:=vX R d;refine xV (xA 1 F rfl fun a F=>oL underlying35 F rfl rfl Z fun a i3 F=>xA 2 F rfl fun a F=>xG (qS F rfl (fun T=>?_) (fun T=>?_)))
 ·
  replace d:=vY T d;refine xV (xA 3 F rfl fun a F=>xG (xP (vO (oJ (jL F rfl (xX F rfl) (xX F rfl) (xX F rfl) ?_)))));obtain rfl:=oj d;exact⟨_,rfl,_,rfl,(H.s [] rfl rfl),(fun h=>absurd h (show(3:Int)≠0 by decide)),(show xO (0) by decide),(show xO (3) by decide)⟩
 replace d:=vX T d;refine xS (vK (xH (xV (fJ isAgg26 sizeOf26 F rfl rfl (H.b 1 rfl) rfl rfl fun a F=>fJ isAgg29 sizeOf29 F rfl rfl (H.b 0 rfl) rfl rfl (fun a F=>?_)))));obtain⟨i,c2,d⟩:=xB d;refine oG F rfl call55 rfl (sA i c2 _ H.hN (xJ.m i1 (H.u h1)) (xK.m i2 (H.u h2))) (fun a vv w ⟨p,C,D,v6,v7,be,S,i4,O,i5,J⟩ F=>?_);subst vv;have O:=H.dn O;have J:=H.dn J;have H:=H.rk S ⟨n0,⟨n0,⟨n0,trivial⟩⟩⟩ rfl;refine xA 1 F rfl fun a F=>xG (xF (xV (xA 1 F rfl fun a F=>oL underlying35 F rfl rfl Z fun a i6 F=>xA 1 F rfl fun a F=>xG ?_)));obtain⟨o1,d,a9⟩:=xT d;refine oR (fun a w=>∃ (s1:List (List (List Int))) (P:Value) (s2:List Literal) (Q:Value),o1= .nx (s1,s2)∧Sk a 38 [(9,qC p)]∧Sep [] B e w [bx p [xC i.1,C,xC i.2.2.1,D,P,Q] 85,rl 1 (qK 1 (qK 1 xI)) 55 P s1,rl 2 oE 160 Q s2]) ?_ ?_
 ·
  refine oQ ?_;obtain⟨am,an,d⟩:=qZ d;refine qY (fun g a w=>∃ (A:Nat) (t:List Line) (E:List (List (List Int))) (x:Value) (G:List Literal) (y:Value),(A≤n.length∧n.drop A=t)∧t.length=g∧qR am t A (E,G)=some o1∧Sk a 38 [(26,xC (A:Int)),(9,qC p),(24,M),(25,xC (n.length:Int))]∧Sep [] B e w [bx p [xC i.1,C,xC i.2.2.1,D,x,y] 85,rl 1 (qK 1 (qK 1 xI)) 55 x E,rl 2 oE 160 y G]) n.length ?_ ?_
  ·
   exact⟨0,n,i.2.2.2.2.1,v6,i.2.2.2.2.2,v7,⟨Nat.zero_le _,rfl⟩,rfl,d,F.su,(H.s [0,1,2] rfl rfl)⟩
  intro g1 a w ⟨A,t,E,x,G,y,j,ao,d,F,H⟩
  cases t with
  | nil=>
   replace d:=vA d;have q1:=vC j.1 j.2;have l1:=zK q1;refine xV (xA 1 F rfl fun a F=>xG (xF (zS F rfl l1 (qV (qX (qX (kF ?_)))))));refine xH ?_;exact⟨E,x,G,y,(zL d),F.su,H⟩
  | cons f t=>
   subst ao;replace j:=qE j.2;have y1:=vH j.2.1;obtain⟨bf,d,aa⟩:=qM d;rw[an] at d;have l1:=vR j.1;refine xV (xA 1 F rfl fun a F=>xG (xF (zQ F rfl l1 (xS (xH (xF ?_))))));have j1:=k64 (Nat.le_of_lt j.1) i6;have m1:=kO j.1 i6;refine oQ (xV (xA 1 F rfl fun a F=>oI underlying35 sizeOf77 F rfl rfl rfl Z y1 fun a p1 h4 F=>olA isAgg77 sizeOf77 F rfl rfl H.sm h4 fun a bg h5 F=>oA zeroValue77 F rfl rfl H fun a w b4 H F=>xA 1 F rfl fun a F=>?_));obtain⟨rfl,i7,i8,i9,aq⟩:=oP.o h5;refine eX (vs:=[xC f.kind,xC f.var,xC f.value,xC f.con]) sizeOf77 F rfl rfl rfl H (oc rfl (oc rfl (oc rfl (oc rfl on)))) rfl rfl fun w H=>vE (xA 1 F rfl fun a F=>fJ isAgg77 sizeOf77 F rfl rfl (H.b 0 rfl) rfl rfl (fun a F=>?_));obtain⟨I,c3,d⟩:=xB d;obtain⟨X1,K1,ar⟩:=Sep.lend (K:=[bx p [xC i.1,C,xC i.2.2.1,D,x,y] 85,rl 1 (qK 1 (qK 1 xI)) 55 x E,rl 2 oE 160 y G]) (L:=[bx b4 [xC f.kind,xC f.var,xC f.value,xC f.con] 77]) (H.s [1,2,3,0] rfl rfl);refine oG F rfl call56 rfl (pK I c3 _ H.hN K1 i4 (H.u O) i5 (H.u J) (oP.m i7 i8 i9 aq)) (fun a vv w ⟨U,V,bh,S⟩ F=>?_);subst vv;have H:Sep [] B e w [bx p [xC i.1,C,xC i.2.2.1,D,U,V] 85,rl 1 (qK 1 (qK 1 xI)) 55 U I.2.1,rl 2 oE 160 V I.2.2,bx b4 [xC f.kind,xC f.var,xC f.value,xC f.con] 77]:=ar S;refine xA 1 F rfl fun a F=>xG (qS F rfl (fun W=>?_) (fun W=>?_))
   ·
    replace d:=vY W d;refine xV (xA 4 F rfl fun a F=>xG (xP (vO (oJ ?_))));refine oJ ?_;replace d:=kK d aa;refine vO (oJ ?_);replace d:=kI d a9;refine oJ (jL F rfl (xX F rfl) (xX F rfl) (xX F rfl) ?_);obtain rfl:=oj d;exact⟨_,rfl,_,rfl,(H.s [] rfl rfl),(fun h=>absurd h (show(8:Int)≠0 by decide)),j1,(show xO (8) by decide)⟩
   replace d:=vX W d;refine xS (vK (xH (oM (zG F rfl rfl rfl m1 fun a F=>xA 1 F rfl fun a F=>xG ?_))));replace d:=zM d aa;exact⟨_,Nat.lt_succ_self _,A+1,t,I.2.1,U,I.2.2,V,⟨j.1,j.2.2⟩,rfl,d,F.su,(H.s [0,1,2] rfl rfl)⟩
 rintro a w ⟨s1,P,s2,Q,rfl,F,H⟩
 have d:=xY a9;refine xH (xV (xA 4 F rfl fun a F=>xG (xP (jL F rfl (xX F rfl) (xX F rfl) (xX F rfl) ?_))));obtain rfl:=oj d;exact⟨_,rfl,_,rfl,(H.s [] rfl rfl),(fun _=>⟨p,C,D,P,Q,rfl,H,i4,O,i5,J⟩),(show xO (0) by decide),(show xO (0) by decide)⟩
def zZ (N:Nat) (e:Template) (f:Instance) (d:List Line):Option (Int×Int):=
 xZ (gY N (Template.mk e.size e.rels) (Instance.mk f.vars f.cons) d) fun c=>
 if (c.2.2 != 0) then
  some (c.2.1,c.2.2)
 else
  if (decide (0<(c.1.2.2.2.2.1.length:Int))) then
   some ((d.length:Int),8)
  else
   some ((d.length:Int),0)
theorem gQ {B:Nat→Prop} {N:Nat} {t:Template} {x:Instance} {y:List Line} (r:Int×Int) (d:zZ N t x y=some r) {i:Value} {j:Value} {n:Value} (e:World) (D:∀ c,B c→c<e.heap.size) (E:Bo B e (kJ 2 xJ) i t) (G:Bo B e (kJ 2 xK) j x) (p:Bo B e (Sl 4 oP) n y):Calls Tryz.prog 14 #[i,j,n] e (Gv (fun v w'=>v= .tuple #[xC r.1,xC r.2]∧Sep [] B e w' []∧xO r.1∧xO r.2)):=by
 unfold zZ at d
 refine xW (L:=[(0,i),(1,j),(2,n)]) func14 rfl rfl rfl (sc rfl (sc rfl (sc rfl sn))) (fun a F=>?_);have H:=Sep.start D;refine xV ?_;obtain⟨Y,rfl,I,J⟩:=xJ.o E;refine oX F rfl rfl rfl H (fun a w Z H F=>?_);obtain⟨V,rfl,K,M⟩:=xK.o G;refine oX F rfl rfl rfl H fun a w b2 H F=>xA 2 F rfl fun a F=>vE (fJ isAgg26 sizeOf26 F rfl rfl (H.b 1 rfl) rfl rfl fun a F=>fJ isAgg29 sizeOf29 F rfl rfl (H.b 0 rfl) rfl rfl fun a F=>xA 1 F rfl fun a F=>?_);obtain⟨A,O,d⟩:=xB d;refine oG F rfl call31 rfl (uK A O _ H.hN (xJ.m I (H.u J)) (xK.m K (H.u M)) (H.u p)) (fun a P w ⟨v4,W,S,C,Q,R⟩ F=>?_);subst P;have H:=H.r0 S;refine xA 7 F rfl fun a F=>xG (xF (oQ ?_));refine xV (xA 3 F rfl fun a F=>xG (qS F rfl (fun f=>?_) (fun f=>?_)))
 ·
  replace d:=vY f d;refine xV (xA 4 F rfl fun a F=>xG (xP (vO (oJ ?_))));refine vV F rfl (xX F rfl) (xX F rfl) ?_;obtain rfl:=oj d;exact⟨_,rfl,rfl,(H.s [] rfl rfl),Q,R⟩
 replace d:=vX f d;refine xV (xA 1 F rfl fun a F=>?_);obtain⟨b3,v5,v6,v7,v8,rfl,HC28,i5,h3,X,h4⟩:=C (ne0 ‹(A.2.2 != 0)=false›);refine qJ F rfl rfl fun a F=>oD mC F rfl rfl rfl fun a F=>oB isAgg82 F rfl rfl (HC28.b 0 rfl) rfl fun a F=>oL underlying82 F rfl rfl (HC28.l 1 rfl) fun a i6 F=>xA 2 F rfl fun a F=>xG (qS F rfl (fun h=>?_) (fun h=>?_))
 ·
  replace d:=vY h d;refine xV (xA 1 F rfl fun a F=>oL underlying35 F rfl rfl p fun a T F=>xA 2 F rfl fun a F=>xG (xP (vO (oJ ?_))));refine vV F rfl (xX F rfl) (xX F rfl) ?_;obtain rfl:=oj d;exact⟨_,rfl,rfl,(H.s [] rfl rfl),T,(show xO (8) by decide)⟩
 replace d:=vX h d;refine xS (vK (xH (xV (xA 1 F rfl fun a F=>oL underlying35 F rfl rfl p fun a U F=>xA 2 F rfl fun a F=>xG ?_))));refine xP (vV F rfl (xX F rfl) (xX F rfl) ?_);obtain rfl:=oj d;exact⟨_,rfl,rfl,(H.s [] rfl rfl),U,(show xO (0) by decide)⟩
end Go.Proofs.YtghihmkhdhjhiaaGreatDoor
